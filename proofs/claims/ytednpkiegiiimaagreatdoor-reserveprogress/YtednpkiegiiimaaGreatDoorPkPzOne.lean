/-
  The first tree of laws: the digests', the letters', the keys'.
-/
import Derived.Test.YtednpkiegiiimaaGreatDoorPkTab
import Derived.Test.YtednpkiegiiimaaGreatDoorPkKs
set_option linter.unusedSectionVars false
set_option linter.constructorNameAsVariable false
set_option linter.unusedVariables false
set_option linter.unusedSimpArgs false
namespace Go.CE
namespace V
namespace Q
variable [Sym] [SymOk]
noncomputable def L7 : LQ := keysQ
noncomputable def E7 : LA := keysE
theorem G7 : Good P 7 L7 E7 := keys_good
noncomputable def L13 : LQ := validQ
noncomputable def E13 : LA := validE
theorem G13 : Good P 13 L13 E13 := lvalid_good
noncomputable def L56 : LQ := sum2Q sumTab
noncomputable def E56 : LA := sum2E sumTab
theorem G56 : Good P 56 L56 E56 := rsum2_good
noncomputable def L59 : LQ := bytesQ
noncomputable def E59 : LA := bytesE
theorem G59 : Good P 59 L59 E59 := lbytes_good
noncomputable def L60 : LQ := sumQ sumTab
noncomputable def E60 : LA := sumE sumTab
theorem G60 : Good P 60 L60 E60 := dsum_good
noncomputable def L92 : LQ := hashQ sumTab
noncomputable def E92 : LA := hashE sumTab
theorem G92 : Good P 92 L92 E92 := hash_good
noncomputable def L94 : LQ := readQ
noncomputable def E94 : LA := readE
theorem G94 : Good P 94 L94 E94 := lread_good
noncomputable def L96 : LQ := keyQ2 keyTab
noncomputable def E96 : LA := keyE2 keyTab
theorem G96 : Good P 96 L96 E96 := dkey_good
noncomputable def L125 : LQ := numQ
noncomputable def E125 : LA := numE
theorem G125 : Good P 125 L125 E125 := num_good
noncomputable def t0 : LT := (.n 60 L60 E60 (.n 56 L56 E56 (.n 13 L13 E13 (.n 7 L7 E7 .e .e) .e) (.n 59 L59 E59 .e .e)) (.n 96 L96 E96 (.n 94 L94 E94 (.n 92 L92 E92 .e .e) .e) (.n 125 L125 E125 .e .e)))
theorem all0 : t0.all (Good P) := ⟨G60, ⟨G56, ⟨G13, ⟨G7, trivial, trivial⟩, trivial⟩, ⟨G59, trivial, trivial⟩⟩, ⟨G96, ⟨G94, ⟨G92, trivial, trivial⟩, trivial⟩, ⟨G125, trivial, trivial⟩⟩⟩
end Q
end V
end Go.CE
namespace Go.CE
namespace V
namespace Q
set_option maxRecDepth 100000
noncomputable section
variable [Sym] [SymOk]
inductive X15 where
  | mk (m : List Nat) (a b c d f g h i l n o p r t u : FV)
def T15 (x : X15) : FF := X15.rec (motive := fun _ => FF) (fun m a b c d f g h i l n o p r t u => ⟨(.n a (.n b (.n g .e .e .e .e) (.n n .e .e .e .e) (.n t .e .e .e .e) .e) (.n c (.n h .e .e .e .e) (.n o .e .e .e .e) (.n u .e .e .e .e) .e) (.n d (.n i .e .e .e .e) (.n p .e .e .e .e) .e .e) (.n f (.n l .e .e .e .e) (.n r .e .e .e .e) .e .e)), 15, m⟩) x
def c46v : Code := bodyOf P 46
def o46x0 : Array Oper := regO (pth [0] c46v)
def r46x0 : RG X15 := fun call yl x s κ => X15.rec (motive := fun _ => MO X15) (fun m a b c d f g h i l n o p r t u s κ => κ (X15.mk m a b c d f g (.b false) i l n o p r t u) s) x s κ
theorem r46x0ok : RgOk P false o46x0 T15 r46x0 := fun _ _ x _ _ => by cases x; kernel_rfl
def o46x1 : Array Oper := regO (pth [1, 0] c46v)
def r46x1 : RG X15 := fun call yl x s κ => X15.rec (motive := fun _ => MO X15) (fun m a b c d f g h i l n o p r t u s κ => binC a b 3 .geq P s (fun v0 s => bnk (fun κ1 => wantC v0 true (κ1 a s) (κ1 .e s)) (fun v1 s => bnk (fun κ1 => wantC v0 true (κ1 c s) (κ1 .e s)) (fun v2 s => bnk (fun κ1 => wantC v0 true (binC v1 v2 3 .leq P s (κ1)) (κ1 .e s)) (fun v3 s => bnk (fun κ0 => condB v0 (κ0 v3 s) (κ0 (.b false) s)) (fun v4 s => κ (X15.mk m a b c d f g v4 a b v0 v0 v1 v2 v3 v4) s)))))) x s κ
theorem r46x1ok : RgOk P false o46x1 T15 r46x1 := fun _ _ x _ _ => by cases x; kernel_rfl
def S46 : SF X15 := (seqS (regS P t0.fq r46x0) (seqS (regS P t0.fq r46x1) retS))
theorem S46ok : Sh P t0.fq T15 c46v S46 := by
  have e : c46v = (.seq (.region 0 o46x0 false) (.seq (.region 1 o46x1 false) .ret)) := by kernel_rfl
  rw [e]
  exact (sh_seq (sh_reg r46x0ok) (sh_seq (sh_reg r46x1ok) sh_ret))
def A46 : List FV → Option X15 := fun l => match l with
  | [a, b, c] => some (X15.mk [] a b c .e .e .e .e .e .e .e .e .e .e .e .e)
  | _ => none
def L46 : LQ := shal P T15 S46 [.tmp 6] 4000 A46
def E46 : LA := evCall P t0.fa 4000 46
theorem G46 : Good P 46 L46 E46 := good_shal all0 (by kernel_rfl) (show FT P 46 = some (c46v, 15, [.tmp 6]) by kernel_rfl) S46ok (fun l x h => by
    unfold A46 at h
    split at h
    · cases h; exact ⟨by kernel_rfl, by kernel_rfl⟩
    · cases h) 4000
inductive X9 where
  | mk (m : List Nat) (a b c d f g h i l : FV)
def T9 (x : X9) : FF := X9.rec (motive := fun _ => FF) (fun m a b c d f g h i l => ⟨(.n a (.n b (.n g .e .e .e .e) .e .e .e) (.n c (.n h .e .e .e .e) .e .e .e) (.n d (.n i .e .e .e .e) .e .e .e) (.n f (.n l .e .e .e .e) .e .e .e)), 9, m⟩) x
def c116v : Code := bodyOf P 116
def o116x0 : Array Oper := regO (pth [0] c116v)
def r116x0 : RG X9 := fun call yl x s κ => X9.rec (motive := fun _ => MO X9) (fun m a b c d f g h i l s κ => κ (X9.mk m a b (.b false) d f g h i l) s) x s κ
theorem r116x0ok : RgOk P false o116x0 T9 r116x0 := fun _ _ x _ _ => by cases x; kernel_rfl
def o116x1 : Array Oper := regO (pth [1, 0] c116v)
def r116x1 : RG X9 := fun call yl x s κ => X9.rec (motive := fun _ => MO X9) (fun m a b c d f g h i l s κ => binC (.i .i64 0) a 3 .leq P s (fun v0 s => bnk (fun κ1 => wantC v0 true (κ1 a s) (κ1 .e s)) (fun v1 s => bnk (fun κ1 => wantC v0 true (binC v1 (.i .i64 16) 3 .lss P s (κ1)) (κ1 .e s)) (fun v2 s => bnk (fun κ0 => condB v0 (κ0 v2 s) (κ0 (.b false) s)) (fun v3 s => κ (X9.mk m a b v3 a v0 v0 v1 v2 v3) s))))) x s κ
theorem r116x1ok : RgOk P false o116x1 T9 r116x1 := fun _ _ x _ _ => by cases x; kernel_rfl
def S116 : SF X9 := (seqS (regS P t0.fq r116x0) (seqS (regS P t0.fq r116x1) retS))
theorem S116ok : Sh P t0.fq T9 c116v S116 := by
  have e : c116v = (.seq (.region 0 o116x0 false) (.seq (.region 1 o116x1 false) .ret)) := by kernel_rfl
  rw [e]
  exact (sh_seq (sh_reg r116x0ok) (sh_seq (sh_reg r116x1ok) sh_ret))
def A116 : List FV → Option X9 := fun l => match l with
  | [a] => some (X9.mk [] a .e .e .e .e .e .e .e .e)
  | _ => none
def L116 : LQ := shal P T9 S116 [.tmp 2] 4000 A116
def E116 : LA := evCall P t0.fa 4000 116
theorem G116 : Good P 116 L116 E116 := good_shal all0 (by kernel_rfl) (show FT P 116 = some (c116v, 9, [.tmp 2]) by kernel_rfl) S116ok (fun l x h => by
    unfold A116 at h
    split at h
    · cases h; exact ⟨by kernel_rfl, by kernel_rfl⟩
    · cases h) 4000
inductive X19 where
  | mk (m : List Nat) (a b c d f g h i l n o p r t u w y z A : FV)
def T19 (x : X19) : FF := X19.rec (motive := fun _ => FF) (fun m a b c d f g h i l n o p r t u w y z A => ⟨(.n a (.n b (.n g .e .e .e .e) (.n n .e .e .e .e) (.n t .e .e .e .e) (.n z .e .e .e .e)) (.n c (.n h .e .e .e .e) (.n o .e .e .e .e) (.n u .e .e .e .e) (.n A .e .e .e .e)) (.n d (.n i .e .e .e .e) (.n p .e .e .e .e) (.n w .e .e .e .e) .e) (.n f (.n l .e .e .e .e) (.n r .e .e .e .e) (.n y .e .e .e .e) .e)), 19, m⟩) x
def c67v : Code := bodyOf P 67
def o67x0 : Array Oper := regO (pth [0] c67v)
def r67x0 : RG X19 := fun call yl x s κ => X19.rec (motive := fun _ => MO X19) (fun m a b c d f g h i l n o p r t u w y z A s κ => κ (X19.mk m a b c d (.i .i64 0) g h i l n o p r t u w y z A) s) x s κ
theorem r67x0ok : RgOk P false o67x0 T19 r67x0 := fun _ _ x _ _ => by cases x; kernel_rfl
def o67x1 : Array Oper := regO (pth [1, 0, 0] c67v)
def r67x1 : RG X19 := fun call yl x s κ => X19.rec (motive := fun _ => MO X19) (fun m a b c d f g h i l n o p r t u w y z A s κ => lenC a P 33 s (fun v0 s => κ (X19.mk m a b c d f g a v0 (.i .i64 0) n o p r t u w y z A) s)) x s κ
theorem r67x1ok : RgOk P false o67x1 T19 r67x1 := fun _ _ x _ _ => by cases x; kernel_rfl
def o67x2 : Array Oper := regO (pth [1, 0, 1, 0, 0, 0] c67v)
def r67x2 : RG X19 := fun call yl x s κ => X19.rec (motive := fun _ => MO X19) (fun m a b c d f g h i l n o p r t u w y z A s κ => binC l i 3 .lss P s (fun v0 s => κ (X19.mk m a b c d f g h i l v0 o p r t u w y z A) s)) x s κ
theorem r67x2ok : RgOk P false o67x2 T19 r67x2 := fun _ _ x _ _ => by cases x; kernel_rfl
def o67x3 : Array Oper := regO (pth [1, 0, 1, 0, 0, 1, 1, 0, 0, 0] c67v)
def r67x3 : RG X19 := fun call yl x s κ => X19.rec (motive := fun _ => MO X19) (fun m a b c d f g h i l n o p r t u w y z A s κ => κ (X19.mk m a b c d f l h i l n l p r t u w y z A) s) x s κ
theorem r67x3ok : RgOk P false o67x3 T19 r67x3 := fun _ _ x _ _ => by cases x; kernel_rfl
def o67x4 : Array Oper := regO (pth [1, 0, 1, 0, 0, 1, 1, 0, 0, 1, 0] c67v)
def r67x4 : RG X19 := fun call yl x s κ => X19.rec (motive := fun _ => MO X19) (fun m a b c d f g h i l n o p r t u w y z A s κ => natK g fun j => iaS a j 62 s (fun v0 s => ldV v0 true 62 s (fun v1 s => callV b [v1] call yl s (fun v2 s => κ (X19.mk m a b c d f g h i l n o b a g v0 v1 v2 z A) s)))) x s κ
theorem r67x4ok : RgOk P false o67x4 T19 r67x4 := fun _ _ x _ _ => by cases x; kernel_rfl
def o67x5 : Array Oper := regO (pth [1, 0, 1, 0, 0, 1, 1, 0, 0, 1, 1, 0, 0] c67v)
def r67x5 : RG X19 := fun call yl x s κ => X19.rec (motive := fun _ => MO X19) (fun m a b c d f g h i l n o p r t u w y z A s κ => κ (X19.mk m a b c d g g h i l n o p r t u w y g A) s) x s κ
theorem r67x5ok : RgOk P false o67x5 T19 r67x5 := fun _ _ x _ _ => by cases x; kernel_rfl
def o67x6 : Array Oper := regO (pth [1, 0, 1, 0, 0, 1, 1, 1] c67v)
def r67x6 : RG X19 := fun call yl x s κ => X19.rec (motive := fun _ => MO X19) (fun m a b c d f g h i l n o p r t u w y z A s κ => binC l (.i .i64 1) 3 .add P s (fun v0 s => κ (X19.mk m a b c d f g h i v0 n o p r t u w y z v0) s)) x s κ
theorem r67x6ok : RgOk P false o67x6 T19 r67x6 := fun _ _ x _ _ => by cases x; kernel_rfl
def o67x7 : Array Oper := regO (pth [1, 1, 0] c67v)
def r67x7 : RG X19 := fun call yl x s κ => X19.rec (motive := fun _ => MO X19) (fun m a b c d f g h i l n o p r t u w y z A s κ => κ (X19.mk m a b c d (.o (.i .i64 (.negSucc 0))) g h i l n o p r t u w y z A) s) x s κ
theorem r67x7ok : RgOk P false o67x7 T19 r67x7 := fun _ _ x _ _ => by cases x; kernel_rfl
def S67 : SF X19 := (seqS (regS P t0.fq r67x0) (seqS (seqS (regS P t0.fq r67x1) (blkS 0 (loopS (seqS (regS P t0.fq r67x2) (seqS (condS (fun x => X19.rec (motive := fun _ => FV) (fun _ _ _ _ _ _ _ _ _ _ z _ _ _ _ _ _ _ _ _ => z) x) skipS (exitS 0)) (seqS (blkS 1 (seqS (regS P t0.fq r67x3) (seqS (regS P t0.fq r67x4) (condS (fun x => X19.rec (motive := fun _ => FV) (fun _ _ _ _ _ _ _ _ _ _ _ _ _ _ _ _ _ z _ _ => z) x) (seqS (regS P t0.fq r67x5) retS) skipS)))) (regS P t0.fq r67x6))))))) (seqS (regS P t0.fq r67x7) retS)))
theorem S67ok : Sh P t0.fq T19 c67v S67 := by
  have e : c67v = (.seq (.region 0 o67x0 false) (.seq (.seq (.region 1 o67x1 false) (.block 0 (.loop (.seq (.region 2 o67x2 false) (.seq (.cond (.tmp 9) .skip (.exit 0)) (.seq (.block 1 (.seq (.region 3 o67x3 false) (.seq (.region 4 o67x4 false) (.cond (.tmp 16) (.seq (.region 5 o67x5 false) .ret) .skip)))) (.region 6 o67x6 false))))))) (.seq (.region 7 o67x7 false) .ret))) := by kernel_rfl
  rw [e]
  exact (sh_seq (sh_reg r67x0ok) (sh_seq (sh_seq (sh_reg r67x1ok) (sh_blk 0 (sh_loop (sh_seq (sh_reg r67x2ok) (sh_seq (sh_cond (fun x => by cases x; rfl) sh_skip (sh_exit 0)) (sh_seq (sh_blk 1 (sh_seq (sh_reg r67x3ok) (sh_seq (sh_reg r67x4ok) (sh_cond (fun x => by cases x; rfl) (sh_seq (sh_reg r67x5ok) sh_ret) sh_skip)))) (sh_reg r67x6ok))))))) (sh_seq (sh_reg r67x7ok) sh_ret)))
def A67 : List FV → Option X19 := fun l => match l with
  | [a, b] => some (X19.mk [] a b .e .e .e .e .e .e .e .e .e .e .e .e .e .e .e .e .e)
  | _ => none
def L67 : LQ := shal P T19 S67 [.tmp 4] 4000 A67
def E67 : LA := evCall P t0.fa 4000 67
theorem G67 : Good P 67 L67 E67 := good_shal all0 (by kernel_rfl) (show FT P 67 = some (c67v, 19, [.tmp 4]) by kernel_rfl) S67ok (fun l x h => by
    unfold A67 at h
    split at h
    · cases h; exact ⟨by kernel_rfl, by kernel_rfl⟩
    · cases h) 4000
inductive X13 where
  | mk (m : List Nat) (a b c d f g h i l n o p r : FV)
def T13 (x : X13) : FF := X13.rec (motive := fun _ => FF) (fun m a b c d f g h i l n o p r => ⟨(.n a (.n b (.n g .e .e .e .e) (.n n .e .e .e .e) .e .e) (.n c (.n h .e .e .e .e) (.n o .e .e .e .e) .e .e) (.n d (.n i .e .e .e .e) (.n p .e .e .e .e) .e .e) (.n f (.n l .e .e .e .e) (.n r .e .e .e .e) .e .e)), 13, m⟩) x
def c68v : Code := bodyOf P 68
def o68x0 : Array Oper := regO (pth [0] c68v)
def r68x0 : RG X13 := fun call yl x s κ => X13.rec (motive := fun _ => MO X13) (fun m a b c d f g h i l n o p r s κ => bxV a 53 s (fun v0 s => κ (X13.mk m a b v0 (.b false) f g h i l n o p r) s)) x s κ
theorem r68x0ok : RgOk P false o68x0 T13 r68x0 := fun _ _ x _ _ => by cases x; kernel_rfl
def o68x1 : Array Oper := regO (pth [1, 0] c68v)
def r68x1 : RG X13 := fun call yl x s κ => X13.rec (motive := fun _ => MO X13) (fun m a b c d f g h i l n o p r s κ => ptrK c 0 s (fun v0 s => ldV v0 false 1 s (fun v1 s => binC v1 (.i .i64 9) 3 .eql P s (fun v2 s => bnk (fun κ1 => wantC v2 true (ptrK c 1 s (κ1)) (κ1 .e s)) (fun v3 s => bnk (fun κ1 => wantC v2 true (ldV v3 false 1 s (κ1)) (κ1 .e s)) (fun v4 s => bnk (fun κ1 => wantC v2 true (ldV b false 1 s (κ1)) (κ1 .e s)) (fun v5 s => bnk (fun κ1 => wantC v2 true (binC v4 v5 3 .eql P s (κ1)) (κ1 .e s)) (fun v6 s => bnk (fun κ0 => condB v2 (κ0 v6 s) (κ0 (.b false) s)) (fun v7 s => κ (X13.mk m a b c v7 v0 v1 v2 v2 v3 v4 v5 v6 v7) s))))))))) x s κ
theorem r68x1ok : RgOk P false o68x1 T13 r68x1 := fun _ _ x _ _ => by cases x; kernel_rfl
def S68 : SF X13 := (seqS (regS P t0.fq r68x0) (seqS (regS P t0.fq r68x1) retS))
theorem S68ok : Sh P t0.fq T13 c68v S68 := by
  have e : c68v = (.seq (.region 0 o68x0 false) (.seq (.region 1 o68x1 false) .ret)) := by kernel_rfl
  rw [e]
  exact (sh_seq (sh_reg r68x0ok) (sh_seq (sh_reg r68x1ok) sh_ret))
def A68 : List FV → Option X13 := fun l => match l with
  | [a, b] => some (X13.mk [] a b .e .e .e .e .e .e .e .e .e .e .e)
  | _ => none
def L68 : LQ := shal P T13 S68 [.tmp 3] 4000 A68
def E68 : LA := evCall P t0.fa 4000 68
theorem G68 : Good P 68 L68 E68 := good_shal all0 (by kernel_rfl) (show FT P 68 = some (c68v, 13, [.tmp 3]) by kernel_rfl) S68ok (fun l x h => by
    unfold A68 at h
    split at h
    · cases h; exact ⟨by kernel_rfl, by kernel_rfl⟩
    · cases h) 4000
inductive X8 where
  | mk (m : List Nat) (a b c d f g h i : FV)
def T8 (x : X8) : FF := X8.rec (motive := fun _ => FF) (fun m a b c d f g h i => ⟨(.n a (.n b (.n g .e .e .e .e) .e .e .e) (.n c (.n h .e .e .e .e) .e .e .e) (.n d (.n i .e .e .e .e) .e .e .e) (.n f .e .e .e .e)), 8, m⟩) x
def c21v : Code := bodyOf P 21
def o21x0 : Array Oper := regO (pth [0] c21v)
def r21x0 : RG X8 := fun call yl x s κ => X8.rec (motive := fun _ => MO X8) (fun m a b c d f g h i s κ => κ (X8.mk m a b (.o (.sl none 0 0)) d f g h i) s) x s κ
theorem r21x0ok : RgOk P false o21x0 T8 r21x0 := fun _ _ x _ _ => by cases x; kernel_rfl
def o21x1 : Array Oper := regO (pth [1, 0, 0] c21v)
def r21x1 : RG X8 := fun call yl x s κ => X8.rec (motive := fun _ => MO X8) (fun m a b c d f g h i s κ => binC a (.o (.sl none 0 0)) 23 .eql P s (fun v0 s => κ (X8.mk m a b c a v0 g h i) s)) x s κ
theorem r21x1ok : RgOk P false o21x1 T8 r21x1 := fun _ _ x _ _ => by cases x; kernel_rfl
def o21x2 : Array Oper := regO (pth [1, 0, 1, 0, 0] c21v)
def r21x2 : RG X8 := fun call yl x s κ => X8.rec (motive := fun _ => MO X8) (fun m a b c d f g h i s κ => κ (X8.mk m a b (.o (.sl none 0 0)) d f g h i) s) x s κ
theorem r21x2ok : RgOk P false o21x2 T8 r21x2 := fun _ _ x _ _ => by cases x; kernel_rfl
def o21x3 : Array Oper := regO (pth [1, 1, 0] c21v)
def r21x3 : RG X8 := fun call yl x s κ => X8.rec (motive := fun _ => MO X8) (fun m a b c d f g h i s κ => buildSliceC P 23 0 [] s (fun v0 s => appendC P 23 23 v0 a s (fun v1 s => κ (X8.mk m a b v1 d f v0 a v1) s))) x s κ
theorem r21x3ok : RgOk P false o21x3 T8 r21x3 := fun _ _ x _ _ => by cases x; kernel_rfl
def S21 : SF X8 := (seqS (regS P t0.fq r21x0) (seqS (seqS (regS P t0.fq r21x1) (condS (fun x => X8.rec (motive := fun _ => FV) (fun _ _ _ _ _ z _ _ _ => z) x) (seqS (regS P t0.fq r21x2) retS) skipS)) (seqS (regS P t0.fq r21x3) retS)))
theorem S21ok : Sh P t0.fq T8 c21v S21 := by
  have e : c21v = (.seq (.region 0 o21x0 false) (.seq (.seq (.region 1 o21x1 false) (.cond (.tmp 4) (.seq (.region 2 o21x2 false) .ret) .skip)) (.seq (.region 3 o21x3 false) .ret))) := by kernel_rfl
  rw [e]
  exact (sh_seq (sh_reg r21x0ok) (sh_seq (sh_seq (sh_reg r21x1ok) (sh_cond (fun x => by cases x; rfl) (sh_seq (sh_reg r21x2ok) sh_ret) sh_skip)) (sh_seq (sh_reg r21x3ok) sh_ret)))
def A21 : List FV → Option X8 := fun l => match l with
  | [a] => some (X8.mk [] a .e .e .e .e .e .e .e)
  | _ => none
def L21 : LQ := shal P T8 S21 [.tmp 2] 4000 A21
def E21 : LA := evCall P t0.fa 4000 21
theorem G21 : Good P 21 L21 E21 := good_shal all0 (by kernel_rfl) (show FT P 21 = some (c21v, 8, [.tmp 2]) by kernel_rfl) S21ok (fun l x h => by
    unfold A21 at h
    split at h
    · cases h; exact ⟨by kernel_rfl, by kernel_rfl⟩
    · cases h) 4000
inductive X23 where
  | mk (m : List Nat) (a b c d f g h i l n o p r t u w y z A B C D E : FV)
def T23 (x : X23) : FF := X23.rec (motive := fun _ => FF) (fun m a b c d f g h i l n o p r t u w y z A B C D E => ⟨(.n a (.n b (.n g (.n D .e .e .e .e) .e .e .e) (.n n .e .e .e .e) (.n t .e .e .e .e) (.n z .e .e .e .e)) (.n c (.n h (.n E .e .e .e .e) .e .e .e) (.n o .e .e .e .e) (.n u .e .e .e .e) (.n A .e .e .e .e)) (.n d (.n i .e .e .e .e) (.n p .e .e .e .e) (.n w .e .e .e .e) (.n B .e .e .e .e)) (.n f (.n l .e .e .e .e) (.n r .e .e .e .e) (.n y .e .e .e .e) (.n C .e .e .e .e))), 23, m⟩) x
def c97v : Code := bodyOf P 97
def o97x0 : Array Oper := regO (pth [0] c97v)
def r97x0 : RG X23 := fun call yl x s κ => X23.rec (motive := fun _ => MO X23) (fun m a b c d f g h i l n o p r t u w y z A B C D E s κ => bxV a 59 s (fun v0 s => κ (X23.mk m a v0 (.o (.sl none 0 0)) d f g h i l n o p r t u w y z A B C D E) s)) x s κ
theorem r97x0ok : RgOk P false o97x0 T23 r97x0 := fun _ _ x _ _ => by cases x; kernel_rfl
def o97x1 : Array Oper := regO (pth [1, 0] c97v)
def r97x1 : RG X23 := fun call yl x s κ => X23.rec (motive := fun _ => MO X23) (fun m a b c d f g h i l n o p r t u w y z A B C D E s κ => makeSliceC P 57 (.i .i64 0) (.i .i64 24) s (fun v0 s => κ (X23.mk m a b c v0 f g v0 i l n o p r t u w y z A B C D E) s)) x s κ
theorem r97x1ok : RgOk P false o97x1 T23 r97x1 := fun _ _ x _ _ => by cases x; kernel_rfl
def o97x2 : Array Oper := regO (pth [1, 1, 0, 0] c97v)
def r97x2 : RG X23 := fun call yl x s κ => X23.rec (motive := fun _ => MO X23) (fun m a b c d f g h i l n o p r t u w y z A B C D E s κ => ptrK b 0 s (fun v0 s => ldV v0 false 1 s (fun v1 s => ptrK b 1 s (fun v2 s => ldV v2 false 1 s (fun v3 s => ptrK b 2 s (fun v4 s => ldV v4 false 1 s (fun v5 s => buildC P 200 [(0, v1), (1, v3), (2, v5)] s (fun v6 s => κ (X23.mk m a b c d f g h v0 v1 v2 v3 v4 v5 v6 (.i .i64 0) w y z A B C D E) s)))))))) x s κ
theorem r97x2ok : RgOk P false o97x2 T23 r97x2 := fun _ _ x _ _ => by cases x; kernel_rfl
def o97x3 : Array Oper := regO (pth [1, 1, 0, 1, 0, 0, 0] c97v)
def r97x3 : RG X23 := fun call yl x s κ => X23.rec (motive := fun _ => MO X23) (fun m a b c d f g h i l n o p r t u w y z A B C D E s κ => binC u (.i .i64 3) 3 .lss P s (fun v0 s => κ (X23.mk m a b c d f g h i l n o p r t u v0 y z A B C D E) s)) x s κ
theorem r97x3ok : RgOk P false o97x3 T23 r97x3 := fun _ _ x _ _ => by cases x; kernel_rfl
def o97x4 : Array Oper := regO (pth [1, 1, 0, 1, 0, 0, 1, 1, 0, 0, 0] c97v)
def r97x4 : RG X23 := fun call yl x s κ => X23.rec (motive := fun _ => MO X23) (fun m a b c d f g h i l n o p r t u w y z A B C D E s κ => natK u fun j => V.iff (Nat.ble (Nat.succ j) 3) (prV t false (Nat.mul j 1) 1 s (fun v0 s => κ (X23.mk m a b c d f v0 h i l n o p r t u w v0 z A B C D E) s))) x s κ
theorem r97x4ok : RgOk P false o97x4 T23 r97x4 := fun _ _ x _ _ => by cases x; kernel_rfl
def o97x5 : Array Oper := regO (pth [1, 1, 0, 1, 0, 0, 1, 1, 0, 0, 1] c97v)
def r97x5 : RG X23 := fun call yl x s κ => X23.rec (motive := fun _ => MO X23) (fun m a b c d f g h i l n o p r t u w y z A B C D E s κ => call 125 [g] s (fun v0 s => appendC P 57 57 d v0 s (fun v1 s => κ (X23.mk m a b c v1 f g h i l n o p r t u w y d g v0 v1 D E) s))) x s κ
theorem r97x5ok : RgOk P false o97x5 T23 r97x5 := fun _ _ x _ _ => by cases x; kernel_rfl
def o97x6 : Array Oper := regO (pth [1, 1, 0, 1, 0, 0, 1, 1, 1] c97v)
def r97x6 : RG X23 := fun call yl x s κ => X23.rec (motive := fun _ => MO X23) (fun m a b c d f g h i l n o p r t u w y z A B C D E s κ => binC u (.i .i64 1) 3 .add P s (fun v0 s => κ (X23.mk m a b c d f g h i l n o p r t v0 w y z A B C v0 E) s)) x s κ
theorem r97x6ok : RgOk P false o97x6 T23 r97x6 := fun _ _ x _ _ => by cases x; kernel_rfl
def o97x7 : Array Oper := regO (pth [1, 1, 1, 0] c97v)
def r97x7 : RG X23 := fun call yl x s κ => X23.rec (motive := fun _ => MO X23) (fun m a b c d f g h i l n o p r t u w y z A B C D E s κ => κ (X23.mk m a b d d f g h i l n o p r t u w y z A B C D d) s) x s κ
theorem r97x7ok : RgOk P false o97x7 T23 r97x7 := fun _ _ x _ _ => by cases x; kernel_rfl
def S97 : SF X23 := (seqS (regS P t0.fq r97x0) (seqS (regS P t0.fq r97x1) (seqS (seqS (regS P t0.fq r97x2) (blkS 0 (loopS (seqS (regS P t0.fq r97x3) (seqS (condS (fun x => X23.rec (motive := fun _ => FV) (fun _ _ _ _ _ _ _ _ _ _ _ _ _ _ _ _ z _ _ _ _ _ _ _ => z) x) skipS (exitS 0)) (seqS (blkS 1 (seqS (regS P t0.fq r97x4) (regS P t0.fq r97x5))) (regS P t0.fq r97x6))))))) (seqS (regS P t0.fq r97x7) retS))))
theorem S97ok : Sh P t0.fq T23 c97v S97 := by
  have e : c97v = (.seq (.region 0 o97x0 false) (.seq (.region 1 o97x1 false) (.seq (.seq (.region 2 o97x2 false) (.block 0 (.loop (.seq (.region 3 o97x3 false) (.seq (.cond (.tmp 15) .skip (.exit 0)) (.seq (.block 1 (.seq (.region 4 o97x4 false) (.region 5 o97x5 false))) (.region 6 o97x6 false))))))) (.seq (.region 7 o97x7 false) .ret)))) := by kernel_rfl
  rw [e]
  exact (sh_seq (sh_reg r97x0ok) (sh_seq (sh_reg r97x1ok) (sh_seq (sh_seq (sh_reg r97x2ok) (sh_blk 0 (sh_loop (sh_seq (sh_reg r97x3ok) (sh_seq (sh_cond (fun x => by cases x; rfl) sh_skip (sh_exit 0)) (sh_seq (sh_blk 1 (sh_seq (sh_reg r97x4ok) (sh_reg r97x5ok))) (sh_reg r97x6ok))))))) (sh_seq (sh_reg r97x7ok) sh_ret))))
def A97 : List FV → Option X23 := fun l => match l with
  | [a] => some (X23.mk [] a .e .e .e .e .e .e .e .e .e .e .e .e .e .e .e .e .e .e .e .e .e .e)
  | _ => none
def L97 : LQ := shal P T23 S97 [.tmp 2] 4000 A97
def E97 : LA := evCall P t0.fa 4000 97
theorem G97 : Good P 97 L97 E97 := good_shal all0 (by kernel_rfl) (show FT P 97 = some (c97v, 23, [.tmp 2]) by kernel_rfl) S97ok (fun l x h => by
    unfold A97 at h
    split at h
    · cases h; exact ⟨by kernel_rfl, by kernel_rfl⟩
    · cases h) 4000
def c32v : Code := bodyOf P 32
def o32x0 : Array Oper := regO (pth [0] c32v)
def r32x0 : RG X19 := fun call yl x s κ => X19.rec (motive := fun _ => MO X19) (fun m a b c d f g h i l n o p r t u w y z A s κ => κ (X19.mk m a b c d (.i .i64 0) g h i l n o p r t u w y z A) s) x s κ
theorem r32x0ok : RgOk P false o32x0 T19 r32x0 := fun _ _ x _ _ => by cases x; kernel_rfl
def o32x1 : Array Oper := regO (pth [1, 0, 0] c32v)
def r32x1 : RG X19 := fun call yl x s κ => X19.rec (motive := fun _ => MO X19) (fun m a b c d f g h i l n o p r t u w y z A s κ => lenC a P 23 s (fun v0 s => κ (X19.mk m a b c d f g a v0 (.i .i64 0) n o p r t u w y z A) s)) x s κ
theorem r32x1ok : RgOk P false o32x1 T19 r32x1 := fun _ _ x _ _ => by cases x; kernel_rfl
def o32x2 : Array Oper := regO (pth [1, 0, 1, 0, 0, 0] c32v)
def r32x2 : RG X19 := fun call yl x s κ => X19.rec (motive := fun _ => MO X19) (fun m a b c d f g h i l n o p r t u w y z A s κ => binC l i 3 .lss P s (fun v0 s => κ (X19.mk m a b c d f g h i l v0 o p r t u w y z A) s)) x s κ
theorem r32x2ok : RgOk P false o32x2 T19 r32x2 := fun _ _ x _ _ => by cases x; kernel_rfl
def o32x3 : Array Oper := regO (pth [1, 0, 1, 0, 0, 1, 1, 0, 0, 0] c32v)
def r32x3 : RG X19 := fun call yl x s κ => X19.rec (motive := fun _ => MO X19) (fun m a b c d f g h i l n o p r t u w y z A s κ => κ (X19.mk m a b c d f l h i l n l p r t u w y z A) s) x s κ
theorem r32x3ok : RgOk P false o32x3 T19 r32x3 := fun _ _ x _ _ => by cases x; kernel_rfl
def o32x4 : Array Oper := regO (pth [1, 0, 1, 0, 0, 1, 1, 0, 0, 1, 0] c32v)
def r32x4 : RG X19 := fun call yl x s κ => X19.rec (motive := fun _ => MO X19) (fun m a b c d f g h i l n o p r t u w y z A s κ => natK g fun j => iaS a j 1 s (fun v0 s => ldV v0 false 1 s (fun v1 s => binC b v1 3 .eql P s (fun v2 s => κ (X19.mk m a b c d f g h i l n o b a g v0 v1 v2 z A) s)))) x s κ
theorem r32x4ok : RgOk P false o32x4 T19 r32x4 := fun _ _ x _ _ => by cases x; kernel_rfl
def o32x5 : Array Oper := regO (pth [1, 0, 1, 0, 0, 1, 1, 0, 0, 1, 1, 0, 0] c32v)
def r32x5 : RG X19 := fun call yl x s κ => X19.rec (motive := fun _ => MO X19) (fun m a b c d f g h i l n o p r t u w y z A s κ => κ (X19.mk m a b c d g g h i l n o p r t u w y g A) s) x s κ
theorem r32x5ok : RgOk P false o32x5 T19 r32x5 := fun _ _ x _ _ => by cases x; kernel_rfl
def o32x6 : Array Oper := regO (pth [1, 0, 1, 0, 0, 1, 1, 1] c32v)
def r32x6 : RG X19 := fun call yl x s κ => X19.rec (motive := fun _ => MO X19) (fun m a b c d f g h i l n o p r t u w y z A s κ => binC l (.i .i64 1) 3 .add P s (fun v0 s => κ (X19.mk m a b c d f g h i v0 n o p r t u w y z v0) s)) x s κ
theorem r32x6ok : RgOk P false o32x6 T19 r32x6 := fun _ _ x _ _ => by cases x; kernel_rfl
def o32x7 : Array Oper := regO (pth [1, 1, 0] c32v)
def r32x7 : RG X19 := fun call yl x s κ => X19.rec (motive := fun _ => MO X19) (fun m a b c d f g h i l n o p r t u w y z A s κ => κ (X19.mk m a b c d (.o (.i .i64 (.negSucc 0))) g h i l n o p r t u w y z A) s) x s κ
theorem r32x7ok : RgOk P false o32x7 T19 r32x7 := fun _ _ x _ _ => by cases x; kernel_rfl
def S32 : SF X19 := (seqS (regS P t0.fq r32x0) (seqS (seqS (regS P t0.fq r32x1) (blkS 0 (loopS (seqS (regS P t0.fq r32x2) (seqS (condS (fun x => X19.rec (motive := fun _ => FV) (fun _ _ _ _ _ _ _ _ _ _ z _ _ _ _ _ _ _ _ _ => z) x) skipS (exitS 0)) (seqS (blkS 1 (seqS (regS P t0.fq r32x3) (seqS (regS P t0.fq r32x4) (condS (fun x => X19.rec (motive := fun _ => FV) (fun _ _ _ _ _ _ _ _ _ _ _ _ _ _ _ _ _ z _ _ => z) x) (seqS (regS P t0.fq r32x5) retS) skipS)))) (regS P t0.fq r32x6))))))) (seqS (regS P t0.fq r32x7) retS)))
theorem S32ok : Sh P t0.fq T19 c32v S32 := by
  have e : c32v = (.seq (.region 0 o32x0 false) (.seq (.seq (.region 1 o32x1 false) (.block 0 (.loop (.seq (.region 2 o32x2 false) (.seq (.cond (.tmp 9) .skip (.exit 0)) (.seq (.block 1 (.seq (.region 3 o32x3 false) (.seq (.region 4 o32x4 false) (.cond (.tmp 16) (.seq (.region 5 o32x5 false) .ret) .skip)))) (.region 6 o32x6 false))))))) (.seq (.region 7 o32x7 false) .ret))) := by kernel_rfl
  rw [e]
  exact (sh_seq (sh_reg r32x0ok) (sh_seq (sh_seq (sh_reg r32x1ok) (sh_blk 0 (sh_loop (sh_seq (sh_reg r32x2ok) (sh_seq (sh_cond (fun x => by cases x; rfl) sh_skip (sh_exit 0)) (sh_seq (sh_blk 1 (sh_seq (sh_reg r32x3ok) (sh_seq (sh_reg r32x4ok) (sh_cond (fun x => by cases x; rfl) (sh_seq (sh_reg r32x5ok) sh_ret) sh_skip)))) (sh_reg r32x6ok))))))) (sh_seq (sh_reg r32x7ok) sh_ret)))
def A32 : List FV → Option X19 := fun l => match l with
  | [a, b] => some (X19.mk [] a b .e .e .e .e .e .e .e .e .e .e .e .e .e .e .e .e .e)
  | _ => none
def L32 : LQ := shal P T19 S32 [.tmp 4] 4000 A32
def E32 : LA := evCall P t0.fa 4000 32
theorem G32 : Good P 32 L32 E32 := good_shal all0 (by kernel_rfl) (show FT P 32 = some (c32v, 19, [.tmp 4]) by kernel_rfl) S32ok (fun l x h => by
    unfold A32 at h
    split at h
    · cases h; exact ⟨by kernel_rfl, by kernel_rfl⟩
    · cases h) 4000
inductive X40 where
  | mk (m : List Nat) (a b c d f g h i l n o p r t u w y z A B C D E F G H I J K L M N O Q R S T U W Y : FV)
def T40 (x : X40) : FF := X40.rec (motive := fun _ => FF) (fun m a b c d f g h i l n o p r t u w y z A B C D E F G H I J K L M N O Q R S T U W Y => ⟨(.n a (.n b (.n g (.n D .e .e .e .e) (.n U .e .e .e .e) .e .e) (.n n (.n H .e .e .e .e) .e .e .e) (.n t (.n L .e .e .e .e) .e .e .e) (.n z (.n Q .e .e .e .e) .e .e .e)) (.n c (.n h (.n E .e .e .e .e) (.n W .e .e .e .e) .e .e) (.n o (.n I .e .e .e .e) .e .e .e) (.n u (.n M .e .e .e .e) .e .e .e) (.n A (.n R .e .e .e .e) .e .e .e)) (.n d (.n i (.n F .e .e .e .e) (.n Y .e .e .e .e) .e .e) (.n p (.n J .e .e .e .e) .e .e .e) (.n w (.n N .e .e .e .e) .e .e .e) (.n B (.n S .e .e .e .e) .e .e .e)) (.n f (.n l (.n G .e .e .e .e) .e .e .e) (.n r (.n K .e .e .e .e) .e .e .e) (.n y (.n O .e .e .e .e) .e .e .e) (.n C (.n T .e .e .e .e) .e .e .e))), 40, m⟩) x
def c63v : Code := bodyOf P 63
def o63x0 : Array Oper := regO (pth [0] c63v)
def r63x0 : RG X40 := fun call yl x s κ => X40.rec (motive := fun _ => MO X40) (fun m a b c d f g h i l n o p r t u w y z A B C D E F G H I J K L M N O Q R S T U W Y s κ => κ (X40.mk m a b (.i .i64 0) d f g h i l n o p r t u w y z A B C D E F G H I J K L M N O Q R S T U W Y) s) x s κ
theorem r63x0ok : RgOk P false o63x0 T40 r63x0 := fun _ _ x _ _ => by cases x; kernel_rfl
def o63x1 : Array Oper := regO (pth [1, 0] c63v)
def r63x1 : RG X40 := fun call yl x s κ => X40.rec (motive := fun _ => MO X40) (fun m a b c d f g h i l n o p r t u w y z A B C D E F G H I J K L M N O Q R S T U W Y s κ => nilC a s (fun v0 s => ptrK v0 1 s (fun v1 s => ptrK v1 3 s (fun v2 s => ldV v2 false 1 s (fun v3 s => call 94 [v3] s (fun v4 s => exV v4 0 s (fun v5 s => exV v4 1 s (fun v6 s => allocC P 53 s (fun v7 s => stA v7 v5 62 s (fun _ s => κ (X40.mk m a b c v7 v6 v4 a v0 v1 v2 v3 v4 v5 v6 u w y z A B C D E F G H I J K L M N O Q R S T U W Y) s)))))))))) x s κ
theorem r63x1ok : RgOk P false o63x1 T40 r63x1 := fun _ _ x _ _ => by cases x; kernel_rfl
def o63x2 : Array Oper := regO (pth [1, 1, 0, 0] c63v)
def r63x2 : RG X40 := fun call yl x s κ => X40.rec (motive := fun _ => MO X40) (fun m a b c d f g h i l n o p r t u w y z A B C D E F G H I J K L M N O Q R S T U W Y s κ => (fun qv0 => sandS (fun s κ1 => binC f (.i .i64 0) 34 .neq P s (κ1)) s (fun qv1 v2 s => (fun qv3 => sandS (fun s κ1 => bnk (fun κ1 => wantC v2 false (ptrK d 1 s (κ1)) (κ1 .e s)) κ1) s (fun qv4 v5 s => sandS (fun s κ1 => bnk (fun κ1 => wantC v2 false (ldV v5 false 1 s (κ1)) (κ1 .e s)) κ1) s (fun qv6 v7 s => sandS (fun s κ1 => bnk (fun κ1 => wantC v2 false (κ1 a s) (κ1 .e s)) κ1) s (fun qv8 v9 s => sandS (fun s κ1 => bnk (fun κ1 => wantC v2 false (nilC v9 s (κ1)) (κ1 .e s)) κ1) s (fun qv10 v11 s => sandS (fun s κ1 => bnk (fun κ1 => wantC v2 false (ptrK v11 1 s (κ1)) (κ1 .e s)) κ1) s (fun qv12 v13 s => sandS (fun s κ1 => bnk (fun κ1 => wantC v2 false (ptrK v13 0 s (κ1)) (κ1 .e s)) κ1) s (fun qv14 v15 s => sandS (fun s κ1 => bnk (fun κ1 => wantC v2 false (ldV v15 false 1 s (κ1)) (κ1 .e s)) κ1) s (fun qv16 v17 s => sandS (fun s κ1 => bnk (fun κ1 => wantC v2 false (binC v7 v17 3 .neq P s (κ1)) (κ1 .e s)) κ1) s (fun qv18 v19 s => sandS (fun s κ1 => bnk (fun κ0 => condB v2 (κ0 (.b true) s) (κ0 v19 s)) (κ1)) s (fun qv20 v21 s => (fun qv22 => sandS (fun s κ1 => bnk (fun κ1 => wantC v21 false (ptrK d 2 s (κ1)) (κ1 .e s)) κ1) s (fun qv23 v24 s => sandS (fun s κ1 => bnk (fun κ1 => wantC v21 false (ldV v24 false 1 s (κ1)) (κ1 .e s)) κ1) s (fun qv25 v26 s => sandS (fun s κ1 => bnk (fun κ1 => wantC v21 false (κ1 a s) (κ1 .e s)) κ1) s (fun qv27 v28 s => sandS (fun s κ1 => bnk (fun κ1 => wantC v21 false (nilC v28 s (κ1)) (κ1 .e s)) κ1) s (fun qv29 v30 s => sandS (fun s κ1 => bnk (fun κ1 => wantC v21 false (ptrK v30 1 s (κ1)) (κ1 .e s)) κ1) s (fun qv31 v32 s => sandS (fun s κ1 => bnk (fun κ1 => wantC v21 false (ptrK v32 1 s (κ1)) (κ1 .e s)) κ1) s (fun qv33 v34 s => sandS (fun s κ1 => bnk (fun κ1 => wantC v21 false (ldV v34 false 1 s (κ1)) (κ1 .e s)) κ1) s (fun qv35 v36 s => sandS (fun s κ1 => bnk (fun κ1 => wantC v21 false (binC v26 v36 3 .neq P s (κ1)) (κ1 .e s)) κ1) s (fun qv37 v38 s => sandS (fun s κ1 => bnk (fun κ0 => condB v21 (κ0 (.b true) s) (κ0 v38 s)) (κ1)) s (fun qv39 v40 s => V.iff (dynA [] [qv0, qv1, qv3, qv4, qv6, qv8, qv10, qv12, qv14, qv16, qv18, qv20, qv22, qv23, qv25, qv27, qv29, qv31, qv33, qv35, qv37, qv39] [[], [false], [false, false], [false, false, false], [false, false, false, false], [false, false, false, true, true], [false, false, false, true, true, false], [false, false, false, true, true, false, false], [false, false, false, true, true, false, false, false], [false, false, false, true, true, false, false, false, false], [false, false, false, false, false, false, false, false, false, false], [false, false, false, false, false, false, false, false, false, false, false], [false, false, false, false, false, false, false, false, false, false, false, false], [false, false, false, false, false, false, false, false, false, false, false, false, false], [false, false, false, false, false, false, false, false, false, false, false, false, false, false], [false, false, false, false, false, false, false, false, false, false, false, false, false, true, true], [false, false, false, false, false, false, false, false, false, false, false, false, false, true, true, false], [false, false, false, false, false, false, false, false, false, false, false, false, false, true, true, false, false], [false, false, false, false, false, false, false, false, false, false, false, false, false, true, true, false, false, false], [false, false, false, false, false, false, false, false, false, false, false, false, false, true, true, false, false, false, false], [false, false, false, false, false, false, false, false, false, false, false, false, false, false, false, false, false, false, false, false], [false, false, false, false, false, false, false, false, false, false, false, false, false, false, false, false, false, false, false, false, false]]) (κ (X40.mk m a b c d f g h i l n o p r t f v2 v2 v5 v7 v9 v11 v13 v15 v17 v19 v21 v21 v24 v26 v28 v30 v32 v34 v36 v38 v40 T U W Y) s))))))))))) (qz s))))))))))) (qz s))) (qz s)) x s κ
theorem r63x2ok : RgOk P true o63x2 T40 r63x2 := fun _ _ x _ _ => by cases x; kernel_rfl
def o63x3 : Array Oper := regO (pth [1, 1, 0, 1, 0, 0] c63v)
def r63x3 : RG X40 := fun call yl x s κ => X40.rec (motive := fun _ => MO X40) (fun m a b c d f g h i l n o p r t u w y z A B C D E F G H I J K L M N O Q R S T U W Y s κ => κ (X40.mk m a b (.i .i64 3) d f g h i l n o p r t u w y z A B C D E F G H I J K L M N O Q R S T U W Y) s) x s κ
theorem r63x3ok : RgOk P false o63x3 T40 r63x3 := fun _ _ x _ _ => by cases x; kernel_rfl
def o63x4 : Array Oper := regO (pth [1, 1, 1, 0] c63v)
def r63x4 : RG X40 := fun call yl x s κ => X40.rec (motive := fun _ => MO X40) (fun m a b c d f g h i l n o p r t u w y z A B C D E F G H I J K L M N O Q R S T U W Y s κ => ldV d true 62 s (fun v0 s => nilC a s (fun v1 s => ptrK v1 37 s (fun v2 s => stA v2 v0 62 s (fun _ s => κ (X40.mk m a b c d f g h i l n o p r t u w y z A B C D E F G H I J K L M N O Q R S a v0 v1 v2) s))))) x s κ
theorem r63x4ok : RgOk P false o63x4 T40 r63x4 := fun _ _ x _ _ => by cases x; kernel_rfl
def o63x5 : Array Oper := regO (pth [1, 1, 1, 1, 0] c63v)
def r63x5 : RG X40 := fun call yl x s κ => X40.rec (motive := fun _ => MO X40) (fun m a b c d f g h i l n o p r t u w y z A B C D E F G H I J K L M N O Q R S T U W Y s κ => κ (X40.mk m a b (.i .i64 0) d f g h i l n o p r t u w y z A B C D E F G H I J K L M N O Q R S T U W Y) s) x s κ
theorem r63x5ok : RgOk P false o63x5 T40 r63x5 := fun _ _ x _ _ => by cases x; kernel_rfl
def S63 : SF X40 := (seqS (regS P t0.fq r63x0) (seqS (regS P t0.fq r63x1) (seqS (seqS (regS P t0.fq r63x2) (condS (fun x => X40.rec (motive := fun _ => FV) (fun _ _ _ _ _ _ _ _ _ _ _ _ _ _ _ _ _ _ _ _ _ _ _ _ _ _ _ _ _ _ _ _ _ _ _ _ z _ _ _ _ => z) x) (seqS (regS P t0.fq r63x3) retS) skipS)) (seqS (regS P t0.fq r63x4) (seqS (regS P t0.fq r63x5) retS)))))
theorem S63ok : Sh P t0.fq T40 c63v S63 := by
  have e : c63v = (.seq (.region 0 o63x0 false) (.seq (.region 1 o63x1 false) (.seq (.seq (.region 2 o63x2 true) (.cond (.tmp 35) (.seq (.region 3 o63x3 false) .ret) .skip)) (.seq (.region 4 o63x4 false) (.seq (.region 5 o63x5 false) .ret))))) := by kernel_rfl
  rw [e]
  exact (sh_seq (sh_reg r63x0ok) (sh_seq (sh_reg r63x1ok) (sh_seq (sh_seq (sh_reg r63x2ok) (sh_cond (fun x => by cases x; rfl) (sh_seq (sh_reg r63x3ok) sh_ret) sh_skip)) (sh_seq (sh_reg r63x4ok) (sh_seq (sh_reg r63x5ok) sh_ret)))))
def A63 : List FV → Option X40 := fun l => match l with
  | [a] => some (X40.mk [] a .e .e .e .e .e .e .e .e .e .e .e .e .e .e .e .e .e .e .e .e .e .e .e .e .e .e .e .e .e .e .e .e .e .e .e .e .e .e .e)
  | _ => none
def L63 : LQ := shal P T40 S63 [.tmp 2] 4000 A63
def E63 : LA := evCall P t0.fa 4000 63
theorem G63 : Good P 63 L63 E63 := good_shal all0 (by kernel_rfl) (show FT P 63 = some (c63v, 40, [.tmp 2]) by kernel_rfl) S63ok (fun l x h => by
    unfold A63 at h
    split at h
    · cases h; exact ⟨by kernel_rfl, by kernel_rfl⟩
    · cases h) 4000
def c66v : Code := bodyOf P 66
def o66x0 : Array Oper := regO (pth [0] c66v)
def r66x0 : RG X8 := fun call yl x s κ => X8.rec (motive := fun _ => MO X8) (fun m a b c d f g h i s κ => κ (X8.mk m a b (.o (.sl none 0 0)) d f g h i) s) x s κ
theorem r66x0ok : RgOk P false o66x0 T8 r66x0 := fun _ _ x _ _ => by cases x; kernel_rfl
def o66x1 : Array Oper := regO (pth [1, 0, 0] c66v)
def r66x1 : RG X8 := fun call yl x s κ => X8.rec (motive := fun _ => MO X8) (fun m a b c d f g h i s κ => binC a (.o (.sl none 0 0)) 57 .eql P s (fun v0 s => κ (X8.mk m a b c a v0 g h i) s)) x s κ
theorem r66x1ok : RgOk P false o66x1 T8 r66x1 := fun _ _ x _ _ => by cases x; kernel_rfl
def o66x2 : Array Oper := regO (pth [1, 0, 1, 0, 0] c66v)
def r66x2 : RG X8 := fun call yl x s κ => X8.rec (motive := fun _ => MO X8) (fun m a b c d f g h i s κ => κ (X8.mk m a b (.o (.sl none 0 0)) d f g h i) s) x s κ
theorem r66x2ok : RgOk P false o66x2 T8 r66x2 := fun _ _ x _ _ => by cases x; kernel_rfl
def o66x3 : Array Oper := regO (pth [1, 1, 0] c66v)
def r66x3 : RG X8 := fun call yl x s κ => X8.rec (motive := fun _ => MO X8) (fun m a b c d f g h i s κ => buildSliceC P 57 0 [] s (fun v0 s => appendC P 57 57 v0 a s (fun v1 s => κ (X8.mk m a b v1 d f v0 a v1) s))) x s κ
theorem r66x3ok : RgOk P false o66x3 T8 r66x3 := fun _ _ x _ _ => by cases x; kernel_rfl
def S66 : SF X8 := (seqS (regS P t0.fq r66x0) (seqS (seqS (regS P t0.fq r66x1) (condS (fun x => X8.rec (motive := fun _ => FV) (fun _ _ _ _ _ z _ _ _ => z) x) (seqS (regS P t0.fq r66x2) retS) skipS)) (seqS (regS P t0.fq r66x3) retS)))
theorem S66ok : Sh P t0.fq T8 c66v S66 := by
  have e : c66v = (.seq (.region 0 o66x0 false) (.seq (.seq (.region 1 o66x1 false) (.cond (.tmp 4) (.seq (.region 2 o66x2 false) .ret) .skip)) (.seq (.region 3 o66x3 false) .ret))) := by kernel_rfl
  rw [e]
  exact (sh_seq (sh_reg r66x0ok) (sh_seq (sh_seq (sh_reg r66x1ok) (sh_cond (fun x => by cases x; rfl) (sh_seq (sh_reg r66x2ok) sh_ret) sh_skip)) (sh_seq (sh_reg r66x3ok) sh_ret)))
def A66 : List FV → Option X8 := fun l => match l with
  | [a] => some (X8.mk [] a .e .e .e .e .e .e .e)
  | _ => none
def L66 : LQ := shal P T8 S66 [.tmp 2] 4000 A66
def E66 : LA := evCall P t0.fa 4000 66
theorem G66 : Good P 66 L66 E66 := good_shal all0 (by kernel_rfl) (show FT P 66 = some (c66v, 8, [.tmp 2]) by kernel_rfl) S66ok (fun l x h => by
    unfold A66 at h
    split at h
    · cases h; exact ⟨by kernel_rfl, by kernel_rfl⟩
    · cases h) 4000
inductive X17 where
  | mk (m : List Nat) (a b c d f g h i l n o p r t u w y : FV)
def T17 (x : X17) : FF := X17.rec (motive := fun _ => FF) (fun m a b c d f g h i l n o p r t u w y => ⟨(.n a (.n b (.n g .e .e .e .e) (.n n .e .e .e .e) (.n t .e .e .e .e) .e) (.n c (.n h .e .e .e .e) (.n o .e .e .e .e) (.n u .e .e .e .e) .e) (.n d (.n i .e .e .e .e) (.n p .e .e .e .e) (.n w .e .e .e .e) .e) (.n f (.n l .e .e .e .e) (.n r .e .e .e .e) (.n y .e .e .e .e) .e)), 17, m⟩) x
def c26v : Code := bodyOf P 26
def o26x0 : Array Oper := regO (pth [0] c26v)
def r26x0 : RG X17 := fun call yl x s κ => X17.rec (motive := fun _ => MO X17) (fun m a b c d f g h i l n o p r t u w y s κ => bxV a 53 s (fun v0 s => allocC P 51 s (fun v1 s => κ (X17.mk m a v0 v1 (.i .i64 0) f g h i l n o p r t u w y) s))) x s κ
theorem r26x0ok : RgOk P false o26x0 T17 r26x0 := fun _ _ x _ _ => by cases x; kernel_rfl
def o26x1 : Array Oper := regO (pth [1, 0] c26v)
def r26x1 : RG X17 := fun call yl x s κ => X17.rec (motive := fun _ => MO X17) (fun m a b c d f g h i l n o p r t u w y s κ => ldV b true 62 s (fun v0 s => call 59 [v0] s (fun v1 s => exV v1 0 s (fun v2 s => exV v1 1 s (fun v3 s => κ (X17.mk m a b c d v2 v3 v1 v0 v1 v2 v3 p r t u w y) s))))) x s κ
theorem r26x1ok : RgOk P false o26x1 T17 r26x1 := fun _ _ x _ _ => by cases x; kernel_rfl
def o26x2 : Array Oper := regO (pth [1, 1, 0, 0] c26v)
def r26x2 : RG X17 := fun call yl x s κ => X17.rec (motive := fun _ => MO X17) (fun m a b c d f g h i l n o p r t u w y s κ => binC g (.i .i64 0) 34 .neq P s (fun v0 s => κ (X17.mk m a b c d f g h i l n o g v0 t u w y) s)) x s κ
theorem r26x2ok : RgOk P false o26x2 T17 r26x2 := fun _ _ x _ _ => by cases x; kernel_rfl
def o26x3 : Array Oper := regO (pth [1, 1, 0, 1, 0, 0] c26v)
def r26x3 : RG X17 := fun call yl x s κ => X17.rec (motive := fun _ => MO X17) (fun m a b c d f g h i l n o p r t u w y s κ => buildC P 51 [] s (fun v0 s => stA c v0 32 s (fun _ s => κ (X17.mk m a b c g f g h i l n o p r v0 g w y) s))) x s κ
theorem r26x3ok : RgOk P false o26x3 T17 r26x3 := fun _ _ x _ _ => by cases x; kernel_rfl
def o26x4 : Array Oper := regO (pth [1, 1, 1, 0] c26v)
def r26x4 : RG X17 := fun call yl x s κ => X17.rec (motive := fun _ => MO X17) (fun m a b c d f g h i l n o p r t u w y s κ => call 60 [f] s (fun v0 s => stA c v0 32 s (fun _ s => κ (X17.mk m a b c (.i .i64 0) f g h i l n o p r t u f v0) s))) x s κ
theorem r26x4ok : RgOk P false o26x4 T17 r26x4 := fun _ _ x _ _ => by cases x; kernel_rfl
def S26 : SF X17 := (seqS (regS P t0.fq r26x0) (seqS (regS P t0.fq r26x1) (seqS (seqS (regS P t0.fq r26x2) (condS (fun x => X17.rec (motive := fun _ => FV) (fun _ _ _ _ _ _ _ _ _ _ _ _ _ z _ _ _ _ => z) x) (seqS (regS P t0.fq r26x3) retS) skipS)) (seqS (regS P t0.fq r26x4) retS))))
theorem S26ok : Sh P t0.fq T17 c26v S26 := by
  have e : c26v = (.seq (.region 0 o26x0 false) (.seq (.region 1 o26x1 false) (.seq (.seq (.region 2 o26x2 false) (.cond (.tmp 12) (.seq (.region 3 o26x3 false) .ret) .skip)) (.seq (.region 4 o26x4 false) .ret)))) := by kernel_rfl
  rw [e]
  exact (sh_seq (sh_reg r26x0ok) (sh_seq (sh_reg r26x1ok) (sh_seq (sh_seq (sh_reg r26x2ok) (sh_cond (fun x => by cases x; rfl) (sh_seq (sh_reg r26x3ok) sh_ret) sh_skip)) (sh_seq (sh_reg r26x4ok) sh_ret))))
def A26 : List FV → Option X17 := fun l => match l with
  | [a] => some (X17.mk [] a .e .e .e .e .e .e .e .e .e .e .e .e .e .e .e .e)
  | _ => none
def L26 : LQ := shal P T17 S26 [.cell 2 51, .tmp 3] 4000 A26
def E26 : LA := evCall P t0.fa 4000 26
theorem G26 : Good P 26 L26 E26 := good_shal all0 (by kernel_rfl) (show FT P 26 = some (c26v, 17, [.cell 2 51, .tmp 3]) by kernel_rfl) S26ok (fun l x h => by
    unfold A26 at h
    split at h
    · cases h; exact ⟨by kernel_rfl, by kernel_rfl⟩
    · cases h) 4000
inductive X26 where
  | mk (m : List Nat) (a b c d f g h i l n o p r t u w y z A B C D E F G H : FV)
def T26 (x : X26) : FF := X26.rec (motive := fun _ => FF) (fun m a b c d f g h i l n o p r t u w y z A B C D E F G H => ⟨(.n a (.n b (.n g (.n D .e .e .e .e) .e .e .e) (.n n (.n H .e .e .e .e) .e .e .e) (.n t .e .e .e .e) (.n z .e .e .e .e)) (.n c (.n h (.n E .e .e .e .e) .e .e .e) (.n o .e .e .e .e) (.n u .e .e .e .e) (.n A .e .e .e .e)) (.n d (.n i (.n F .e .e .e .e) .e .e .e) (.n p .e .e .e .e) (.n w .e .e .e .e) (.n B .e .e .e .e)) (.n f (.n l (.n G .e .e .e .e) .e .e .e) (.n r .e .e .e .e) (.n y .e .e .e .e) (.n C .e .e .e .e))), 26, m⟩) x
def c95v : Code := bodyOf P 95
def o95x0 : Array Oper := regO (pth [0] c95v)
def r95x0 : RG X26 := fun call yl x s κ => X26.rec (motive := fun _ => MO X26) (fun m a b c d f g h i l n o p r t u w y z A B C D E F G H s κ => κ (X26.mk m a b c d (.b false) g h i l n o p r t u w y z A B C D E F G H) s) x s κ
theorem r95x0ok : RgOk P false o95x0 T26 r95x0 := fun _ _ x _ _ => by cases x; kernel_rfl
def o95x1 : Array Oper := regO (pth [1, 0, 0] c95v)
def r95x1 : RG X26 := fun call yl x s κ => X26.rec (motive := fun _ => MO X26) (fun m a b c d f g h i l n o p r t u w y z A B C D E F G H s κ => lenC a P 23 s (fun v0 s => lenC b P 23 s (fun v1 s => binC v0 v1 3 .neq P s (fun v2 s => κ (X26.mk m a b c d f g a v0 b v1 v2 p r t u w y z A B C D E F G H) s)))) x s κ
theorem r95x1ok : RgOk P false o95x1 T26 r95x1 := fun _ _ x _ _ => by cases x; kernel_rfl
def o95x2 : Array Oper := regO (pth [1, 0, 1, 0, 0] c95v)
def r95x2 : RG X26 := fun call yl x s κ => X26.rec (motive := fun _ => MO X26) (fun m a b c d f g h i l n o p r t u w y z A B C D E F G H s κ => κ (X26.mk m a b c d (.b false) g h i l n o p r t u w y z A B C D E F G H) s) x s κ
theorem r95x2ok : RgOk P false o95x2 T26 r95x2 := fun _ _ x _ _ => by cases x; kernel_rfl
def o95x3 : Array Oper := regO (pth [1, 1, 0, 0] c95v)
def r95x3 : RG X26 := fun call yl x s κ => X26.rec (motive := fun _ => MO X26) (fun m a b c d f g h i l n o p r t u w y z A B C D E F G H s κ => lenC a P 23 s (fun v0 s => κ (X26.mk m a b c d f g h i l n o a v0 (.i .i64 0) u w y z A B C D E F G H) s)) x s κ
theorem r95x3ok : RgOk P false o95x3 T26 r95x3 := fun _ _ x _ _ => by cases x; kernel_rfl
def o95x4 : Array Oper := regO (pth [1, 1, 0, 1, 0, 0, 0] c95v)
def r95x4 : RG X26 := fun call yl x s κ => X26.rec (motive := fun _ => MO X26) (fun m a b c d f g h i l n o p r t u w y z A B C D E F G H s κ => binC t r 3 .lss P s (fun v0 s => κ (X26.mk m a b c d f g h i l n o p r t v0 w y z A B C D E F G H) s)) x s κ
theorem r95x4ok : RgOk P false o95x4 T26 r95x4 := fun _ _ x _ _ => by cases x; kernel_rfl
def o95x5 : Array Oper := regO (pth [1, 1, 0, 1, 0, 0, 1, 1, 0, 0, 0] c95v)
def r95x5 : RG X26 := fun call yl x s κ => X26.rec (motive := fun _ => MO X26) (fun m a b c d f g h i l n o p r t u w y z A B C D E F G H s κ => κ (X26.mk m a b c d f t h i l n o p r t u t y z A B C D E F G H) s) x s κ
theorem r95x5ok : RgOk P false o95x5 T26 r95x5 := fun _ _ x _ _ => by cases x; kernel_rfl
def o95x6 : Array Oper := regO (pth [1, 1, 0, 1, 0, 0, 1, 1, 0, 0, 1, 0] c95v)
def r95x6 : RG X26 := fun call yl x s κ => X26.rec (motive := fun _ => MO X26) (fun m a b c d f g h i l n o p r t u w y z A B C D E F G H s κ => (fun qv0 => (fun qv1 => sandS (fun s κ1 => natK g fun j => iaS a j 1 s (κ1)) s (fun qv2 v3 s => sandS (fun s κ1 => ldV v3 false 1 s (κ1)) s (fun qv4 v5 s => (fun qv6 => (fun qv7 => sandS (fun s κ1 => natK g fun j => iaS b j 1 s (κ1)) s (fun qv8 v9 s => sandS (fun s κ1 => ldV v9 false 1 s (κ1)) s (fun qv10 v11 s => sandS (fun s κ1 => binC v5 v11 3 .neq P s (κ1)) s (fun qv12 v13 s => V.iff (dynA [] [qv0, qv1, qv2, qv4, qv6, qv7, qv8, qv10, qv12] [[], [true], [false, false], [false, false, false], [true, true, true, true], [true, true, true, true, true], [true, true, true, true, false, false], [true, true, true, true, false, false, false], [false, false, false, false, false, false, false, false]]) (κ (X26.mk m a b c d f g h i l n o p r t u w a g v3 v5 b g v9 v11 v13 H) s))))) (qz s)) (qz s)))) (qz s)) (qz s)) x s κ
theorem r95x6ok : RgOk P true o95x6 T26 r95x6 := fun _ _ x _ _ => by cases x; kernel_rfl
def o95x7 : Array Oper := regO (pth [1, 1, 0, 1, 0, 0, 1, 1, 0, 0, 1, 1, 0, 0] c95v)
def r95x7 : RG X26 := fun call yl x s κ => X26.rec (motive := fun _ => MO X26) (fun m a b c d f g h i l n o p r t u w y z A B C D E F G H s κ => κ (X26.mk m a b c d (.b false) g h i l n o p r t u w y z A B C D E F G H) s) x s κ
theorem r95x7ok : RgOk P false o95x7 T26 r95x7 := fun _ _ x _ _ => by cases x; kernel_rfl
def o95x8 : Array Oper := regO (pth [1, 1, 0, 1, 0, 0, 1, 1, 1] c95v)
def r95x8 : RG X26 := fun call yl x s κ => X26.rec (motive := fun _ => MO X26) (fun m a b c d f g h i l n o p r t u w y z A B C D E F G H s κ => binC t (.i .i64 1) 3 .add P s (fun v0 s => κ (X26.mk m a b c d f g h i l n o p r v0 u w y z A B C D E F G v0) s)) x s κ
theorem r95x8ok : RgOk P false o95x8 T26 r95x8 := fun _ _ x _ _ => by cases x; kernel_rfl
def o95x9 : Array Oper := regO (pth [1, 1, 1, 0] c95v)
def r95x9 : RG X26 := fun call yl x s κ => X26.rec (motive := fun _ => MO X26) (fun m a b c d f g h i l n o p r t u w y z A B C D E F G H s κ => κ (X26.mk m a b c d (.b true) g h i l n o p r t u w y z A B C D E F G H) s) x s κ
theorem r95x9ok : RgOk P false o95x9 T26 r95x9 := fun _ _ x _ _ => by cases x; kernel_rfl
def S95 : SF X26 := (seqS (regS P t0.fq r95x0) (seqS (seqS (regS P t0.fq r95x1) (condS (fun x => X26.rec (motive := fun _ => FV) (fun _ _ _ _ _ _ _ _ _ _ _ z _ _ _ _ _ _ _ _ _ _ _ _ _ _ _ => z) x) (seqS (regS P t0.fq r95x2) retS) skipS)) (seqS (seqS (regS P t0.fq r95x3) (blkS 0 (loopS (seqS (regS P t0.fq r95x4) (seqS (condS (fun x => X26.rec (motive := fun _ => FV) (fun _ _ _ _ _ _ _ _ _ _ _ _ _ _ _ z _ _ _ _ _ _ _ _ _ _ _ => z) x) skipS (exitS 0)) (seqS (blkS 1 (seqS (regS P t0.fq r95x5) (seqS (regS P t0.fq r95x6) (condS (fun x => X26.rec (motive := fun _ => FV) (fun _ _ _ _ _ _ _ _ _ _ _ _ _ _ _ _ _ _ _ _ _ _ _ _ _ z _ => z) x) (seqS (regS P t0.fq r95x7) retS) skipS)))) (regS P t0.fq r95x8))))))) (seqS (regS P t0.fq r95x9) retS))))
theorem S95ok : Sh P t0.fq T26 c95v S95 := by
  have e : c95v = (.seq (.region 0 o95x0 false) (.seq (.seq (.region 1 o95x1 false) (.cond (.tmp 10) (.seq (.region 2 o95x2 false) .ret) .skip)) (.seq (.seq (.region 3 o95x3 false) (.block 0 (.loop (.seq (.region 4 o95x4 false) (.seq (.cond (.tmp 14) .skip (.exit 0)) (.seq (.block 1 (.seq (.region 5 o95x5 false) (.seq (.region 6 o95x6 true) (.cond (.tmp 24) (.seq (.region 7 o95x7 false) .ret) .skip)))) (.region 8 o95x8 false))))))) (.seq (.region 9 o95x9 false) .ret)))) := by kernel_rfl
  rw [e]
  exact (sh_seq (sh_reg r95x0ok) (sh_seq (sh_seq (sh_reg r95x1ok) (sh_cond (fun x => by cases x; rfl) (sh_seq (sh_reg r95x2ok) sh_ret) sh_skip)) (sh_seq (sh_seq (sh_reg r95x3ok) (sh_blk 0 (sh_loop (sh_seq (sh_reg r95x4ok) (sh_seq (sh_cond (fun x => by cases x; rfl) sh_skip (sh_exit 0)) (sh_seq (sh_blk 1 (sh_seq (sh_reg r95x5ok) (sh_seq (sh_reg r95x6ok) (sh_cond (fun x => by cases x; rfl) (sh_seq (sh_reg r95x7ok) sh_ret) sh_skip)))) (sh_reg r95x8ok))))))) (sh_seq (sh_reg r95x9ok) sh_ret))))
def A95 : List FV → Option X26 := fun l => match l with
  | [a, b] => some (X26.mk [] a b .e .e .e .e .e .e .e .e .e .e .e .e .e .e .e .e .e .e .e .e .e .e .e .e)
  | _ => none
def L95 : LQ := shal P T26 S95 [.tmp 4] 4000 A95
def E95 : LA := evCall P t0.fa 4000 95
theorem G95 : Good P 95 L95 E95 := good_shal all0 (by kernel_rfl) (show FT P 95 = some (c95v, 26, [.tmp 4]) by kernel_rfl) S95ok (fun l x h => by
    unfold A95 at h
    split at h
    · cases h; exact ⟨by kernel_rfl, by kernel_rfl⟩
    · cases h) 4000
def c83v : Code := bodyOf P 83
def o83x0 : Array Oper := regO (pth [0] c83v)
def r83x0 : RG X26 := fun call yl x s κ => X26.rec (motive := fun _ => MO X26) (fun m a b c d f g h i l n o p r t u w y z A B C D E F G H s κ => bxV a 53 s (fun v0 s => κ (X26.mk m a b c v0 (.b false) g h i l n o p r t u w y z A B C D E F G H) s)) x s κ
theorem r83x0ok : RgOk P false o83x0 T26 r83x0 := fun _ _ x _ _ => by cases x; kernel_rfl
def o83x1 : Array Oper := regO (pth [1, 0] c83v)
def r83x1 : RG X26 := fun call yl x s κ => X26.rec (motive := fun _ => MO X26) (fun m a b c d f g h i l n o p r t u w y z A B C D E F G H s κ => ptrK d 0 s (fun v0 s => ldV v0 false 1 s (fun v1 s => binC v1 (.i .i64 11) 3 .eql P s (fun v2 s => bnk (fun κ1 => wantC v2 true (ptrK d 1 s (κ1)) (κ1 .e s)) (fun v3 s => bnk (fun κ1 => wantC v2 true (ldV v3 false 1 s (κ1)) (κ1 .e s)) (fun v4 s => bnk (fun κ1 => wantC v2 true (ptrK b 1 s (κ1)) (κ1 .e s)) (fun v5 s => bnk (fun κ1 => wantC v2 true (ldV v5 false 1 s (κ1)) (κ1 .e s)) (fun v6 s => bnk (fun κ1 => wantC v2 true (binC v4 v6 3 .eql P s (κ1)) (κ1 .e s)) (fun v7 s => bnk (fun κ0 => condB v2 (κ0 v7 s) (κ0 (.b false) s)) (fun v8 s => bnk (fun κ1 => wantC v8 true (ptrK d 25 s (κ1)) (κ1 .e s)) (fun v9 s => bnk (fun κ1 => wantC v8 true (ldV v9 false 1 s (κ1)) (κ1 .e s)) (fun v10 s => bnk (fun κ1 => wantC v8 true (binC v10 (.i .i64 1) 3 .eql P s (κ1)) (κ1 .e s)) (fun v11 s => bnk (fun κ0 => condB v8 (κ0 v11 s) (κ0 (.b false) s)) (fun v12 s => bnk (fun κ1 => wantC v12 true (ptrK d 30 s (κ1)) (κ1 .e s)) (fun v13 s => bnk (fun κ1 => wantC v12 true (ldV v13 true 32 s (κ1)) (κ1 .e s)) (fun v14 s => bnk (fun κ1 => wantC v12 true (ldV c true 32 s (κ1)) (κ1 .e s)) (fun v15 s => bnk (fun κ1 => wantC v12 true (binC v14 v15 51 .eql P s (κ1)) (κ1 .e s)) (fun v16 s => bnk (fun κ0 => condB v12 (κ0 v16 s) (κ0 (.b false) s)) (fun v17 s => κ (X26.mk m a b c d v17 v0 v1 v2 v2 v3 v4 v5 v6 v7 v8 v8 v9 v10 v11 v12 v12 v13 v14 v15 v16 v17) s))))))))))))))))))) x s κ
theorem r83x1ok : RgOk P false o83x1 T26 r83x1 := fun _ _ x _ _ => by cases x; kernel_rfl
def S83 : SF X26 := (seqS (regS P t0.fq r83x0) (seqS (regS P t0.fq r83x1) retS))
theorem S83ok : Sh P t0.fq T26 c83v S83 := by
  have e : c83v = (.seq (.region 0 o83x0 false) (.seq (.region 1 o83x1 false) .ret)) := by kernel_rfl
  rw [e]
  exact (sh_seq (sh_reg r83x0ok) (sh_seq (sh_reg r83x1ok) sh_ret))
def A83 : List FV → Option X26 := fun l => match l with
  | [a, b, c] => some (X26.mk [] a b c .e .e .e .e .e .e .e .e .e .e .e .e .e .e .e .e .e .e .e .e .e .e .e)
  | _ => none
def L83 : LQ := shal P T26 S83 [.tmp 4] 4000 A83
def E83 : LA := evCall P t0.fa 4000 83
theorem G83 : Good P 83 L83 E83 := good_shal all0 (by kernel_rfl) (show FT P 83 = some (c83v, 26, [.tmp 4]) by kernel_rfl) S83ok (fun l x h => by
    unfold A83 at h
    split at h
    · cases h; exact ⟨by kernel_rfl, by kernel_rfl⟩
    · cases h) 4000
inductive X12 where
  | mk (m : List Nat) (a b c d f g h i l n o p : FV)
def T12 (x : X12) : FF := X12.rec (motive := fun _ => FF) (fun m a b c d f g h i l n o p => ⟨(.n a (.n b (.n g .e .e .e .e) (.n n .e .e .e .e) .e .e) (.n c (.n h .e .e .e .e) (.n o .e .e .e .e) .e .e) (.n d (.n i .e .e .e .e) (.n p .e .e .e .e) .e .e) (.n f (.n l .e .e .e .e) .e .e .e)), 12, m⟩) x
def c23v : Code := bodyOf P 23
def o23x0 : Array Oper := regO (pth [0] c23v)
def r23x0 : RG X12 := fun call yl x s κ => X12.rec (motive := fun _ => MO X12) (fun m a b c d f g h i l n o p s κ => κ (X12.mk m a b (.o (.sl none 0 0)) d f g h i l n o p) s) x s κ
theorem r23x0ok : RgOk P false o23x0 T12 r23x0 := fun _ _ x _ _ => by cases x; kernel_rfl
def o23x1 : Array Oper := regO (pth [1, 0] c23v)
def r23x1 : RG X12 := fun call yl x s κ => X12.rec (motive := fun _ => MO X12) (fun m a b c d f g h i l n o p s κ => allocC P 33 s (fun v0 s => κ (X12.mk m a b c v0 f g h i l n o p) s)) x s κ
theorem r23x1ok : RgOk P false o23x1 T12 r23x1 := fun _ _ x _ _ => by cases x; kernel_rfl
def o23x2 : Array Oper := regO (pth [1, 1, 0, 0] c23v)
def r23x2 : RG X12 := fun call yl x s κ => X12.rec (motive := fun _ => MO X12) (fun m a b c d f g h i l n o p s κ => κ (X12.mk m a b c d f a h i l n o p) s) x s κ
theorem r23x2ok : RgOk P false o23x2 T12 r23x2 := fun _ _ x _ _ => by cases x; kernel_rfl
def g23x3 : Code × Code := rngO (pth [1, 1, 0, 1, 0] c23v)
def o23x4 : Array Oper := regO (pth [1, 1, 1, 0] c23v)
def r23x4 : RG X12 := fun call yl x s κ => X12.rec (motive := fun _ => MO X12) (fun m a b c d f g h i l n o p s κ => ldV d false 1 s (fun v0 s => κ (X12.mk m a b v0 d f g h i l n o v0) s)) x s κ
theorem r23x4ok : RgOk P false o23x4 T12 r23x4 := fun _ _ x _ _ => by cases x; kernel_rfl
def S23 : SF X12 := (seqS (regS P t0.fq r23x0) (seqS (regS P t0.fq r23x1) (seqS (seqS (regS P t0.fq r23x2) (blkS 0 (rngS P t0.fq T12 (fun δ x => X12.rec (motive := fun _ => X12) (fun m a b c d f g h i l n o p => X12.mk (δ :: m) a b c d f g h i l n o p) x) (fun x => X12.rec (motive := fun _ => FV) (fun _ _ _ _ _ _ z _ _ _ _ _ _ => z) x) [6] g23x3.1 g23x3.2))) (seqS (regS P t0.fq r23x4) retS))))
theorem S23ok : Sh P t0.fq T12 c23v S23 := by
  have e : c23v = (.seq (.region 0 o23x0 false) (.seq (.region 1 o23x1 false) (.seq (.seq (.region 2 o23x2 false) (.block 0 (.rangeFunc (.tmp 5) #[6] g23x3.1 g23x3.2))) (.seq (.region 5 o23x4 false) .ret)))) := by kernel_rfl
  rw [e]
  exact (sh_seq (sh_reg r23x0ok) (sh_seq (sh_reg r23x1ok) (sh_seq (sh_seq (sh_reg r23x2ok) (sh_blk 0 (sh_rng (mk := (fun δ x => X12.rec (motive := fun _ => X12) (fun m a b c d f g h i l n o p => X12.mk (δ :: m) a b c d f g h i l n o p) x)) (get := (fun x => X12.rec (motive := fun _ => FV) (fun _ _ _ _ _ _ z _ _ _ _ _ _ => z) x)) (fun x => by cases x; rfl) (fun d x => by cases x; rfl)))) (sh_seq (sh_reg r23x4ok) sh_ret))))
def A23 : List FV → Option X12 := fun l => match l with
  | [a] => some (X12.mk [] a .e .e .e .e .e .e .e .e .e .e .e)
  | _ => none
def L23 : LQ := shal P T12 S23 [.tmp 2] 4000 A23
def E23 : LA := evCall P t0.fa 4000 23
theorem G23 : Good P 23 L23 E23 := good_shal all0 (by kernel_rfl) (show FT P 23 = some (c23v, 12, [.tmp 2]) by kernel_rfl) S23ok (fun l x h => by
    unfold A23 at h
    split at h
    · cases h; exact ⟨by kernel_rfl, by kernel_rfl⟩
    · cases h) 4000
def c72v : Code := bodyOf P 72
def o72x0 : Array Oper := regO (pth [0] c72v)
def r72x0 : RG X40 := fun call yl x s κ => X40.rec (motive := fun _ => MO X40) (fun m a b c d f g h i l n o p r t u w y z A B C D E F G H I J K L M N O Q R S T U W Y s κ => allocC P 131 s (fun v0 s => κ (X40.mk m a b v0 d f g h i l n o p r t u w y z A B C D E F G H I J K L M N O Q R S T U W Y) s)) x s κ
theorem r72x0ok : RgOk P false o72x0 T40 r72x0 := fun _ _ x _ _ => by cases x; kernel_rfl
def o72x1 : Array Oper := regO (pth [1, 0] c72v)
def r72x1 : RG X40 := fun call yl x s κ => X40.rec (motive := fun _ => MO X40) (fun m a b c d f g h i l n o p r t u w y z A B C D E F G H I J K L M N O Q R S T U W Y s κ => (fun qv0 => sandS (fun s κ1 => nilC a s (κ1)) s (fun qv1 v2 s => sandS (fun s κ1 => ptrK v2 3 s (κ1)) s (fun qv3 v4 s => (fun qv5 => sandS (fun s κ1 => nilC a s (κ1)) s (fun qv6 v7 s => sandS (fun s κ1 => ptrK v7 4 s (κ1)) s (fun qv8 v9 s => (fun qv10 => sandS (fun s κ1 => nilC a s (κ1)) s (fun qv11 v12 s => sandS (fun s κ1 => ptrK v12 5 s (κ1)) s (fun qv13 v14 s => (fun qv15 => sandS (fun s κ1 => nilC a s (κ1)) s (fun qv16 v17 s => sandS (fun s κ1 => ptrK v17 6 s (κ1)) s (fun qv18 v19 s => (fun qv20 => sandS (fun s κ1 => nilC a s (κ1)) s (fun qv21 v22 s => sandS (fun s κ1 => ptrK v22 7 s (κ1)) s (fun qv23 v24 s => (fun qv25 => sandS (fun s κ1 => nilC a s (κ1)) s (fun qv26 v27 s => sandS (fun s κ1 => ptrK v27 8 s (κ1)) s (fun qv28 v29 s => (fun qv30 => sandS (fun s κ1 => nilC a s (κ1)) s (fun qv31 v32 s => sandS (fun s κ1 => ptrK v32 9 s (κ1)) s (fun qv33 v34 s => (fun qv35 => sandS (fun s κ1 => nilC a s (κ1)) s (fun qv36 v37 s => sandS (fun s κ1 => ptrK v37 10 s (κ1)) s (fun qv38 v39 s => (fun qv40 => sandS (fun s κ1 => nilC a s (κ1)) s (fun qv41 v42 s => sandS (fun s κ1 => ptrK v42 11 s (κ1)) s (fun qv43 v44 s => (fun qv45 => sandS (fun s κ1 => nilC a s (κ1)) s (fun qv46 v47 s => sandS (fun s κ1 => ptrK v47 24 s (κ1)) s (fun qv48 v49 s => (fun qv50 => sandS (fun s κ1 => nilC a s (κ1)) s (fun qv51 v52 s => sandS (fun s κ1 => ptrK v52 25 s (κ1)) s (fun qv53 v54 s => (fun qv55 => sandS (fun s κ1 => nilC a s (κ1)) s (fun qv56 v57 s => sandS (fun s κ1 => ptrK v57 26 s (κ1)) s (fun qv58 v59 s => sandS (fun s κ1 => buildC P 131 [(0, v4), (1, v9), (2, v14), (3, v19), (4, v24), (5, v29), (6, v34), (7, v39), (8, v44), (11, v49), (12, v54), (13, v59)] s (κ1)) s (fun qv60 v61 s => sandS (fun s κ1 => stA c v61 17 s (κ1)) s (fun qv62 v63 s => V.iff (dynA [] [qv0, qv1, qv3, qv5, qv6, qv8, qv10, qv11, qv13, qv15, qv16, qv18, qv20, qv21, qv23, qv25, qv26, qv28, qv30, qv31, qv33, qv35, qv36, qv38, qv40, qv41, qv43, qv45, qv46, qv48, qv50, qv51, qv53, qv55, qv56, qv58, qv60, qv62] [[], [false], [false, false], [true, true, true], [true, true, true, false], [true, true, true, false, false], [true, true, true, true, true, true], [true, true, true, true, true, true, false], [true, true, true, true, true, true, false, false], [true, true, true, true, true, true, true, true, true], [true, true, true, true, true, true, true, true, true, false], [true, true, true, true, true, true, true, true, true, false, false], [true, true, true, true, true, true, true, true, true, true, true, true], [true, true, true, true, true, true, true, true, true, true, true, true, false], [true, true, true, true, true, true, true, true, true, true, true, true, false, false], [true, true, true, true, true, true, true, true, true, true, true, true, true, true, true], [true, true, true, true, true, true, true, true, true, true, true, true, true, true, true, false], [true, true, true, true, true, true, true, true, true, true, true, true, true, true, true, false, false], [true, true, true, true, true, true, true, true, true, true, true, true, true, true, true, true, true, true], [true, true, true, true, true, true, true, true, true, true, true, true, true, true, true, true, true, true, false], [true, true, true, true, true, true, true, true, true, true, true, true, true, true, true, true, true, true, false, false], [true, true, true, true, true, true, true, true, true, true, true, true, true, true, true, true, true, true, true, true, true], [true, true, true, true, true, true, true, true, true, true, true, true, true, true, true, true, true, true, true, true, true, false], [true, true, true, true, true, true, true, true, true, true, true, true, true, true, true, true, true, true, true, true, true, false, false], [true, true, true, true, true, true, true, true, true, true, true, true, true, true, true, true, true, true, true, true, true, true, true, true], [true, true, true, true, true, true, true, true, true, true, true, true, true, true, true, true, true, true, true, true, true, true, true, true, false], [true, true, true, true, true, true, true, true, true, true, true, true, true, true, true, true, true, true, true, true, true, true, true, true, false, false], [true, true, true, true, true, true, true, true, true, true, true, true, true, true, true, true, true, true, true, true, true, true, true, true, true, true, true], [true, true, true, true, true, true, true, true, true, true, true, true, true, true, true, true, true, true, true, true, true, true, true, true, true, true, true, false], [true, true, true, true, true, true, true, true, true, true, true, true, true, true, true, true, true, true, true, true, true, true, true, true, true, true, true, false, false], [true, true, true, true, true, true, true, true, true, true, true, true, true, true, true, true, true, true, true, true, true, true, true, true, true, true, true, true, true, true], [true, true, true, true, true, true, true, true, true, true, true, true, true, true, true, true, true, true, true, true, true, true, true, true, true, true, true, true, true, true, false], [true, true, true, true, true, true, true, true, true, true, true, true, true, true, true, true, true, true, true, true, true, true, true, true, true, true, true, true, true, true, false, false], [true, true, true, true, true, true, true, true, true, true, true, true, true, true, true, true, true, true, true, true, true, true, true, true, true, true, true, true, true, true, true, true, true], [true, true, true, true, true, true, true, true, true, true, true, true, true, true, true, true, true, true, true, true, true, true, true, true, true, true, true, true, true, true, true, true, true, false], [true, true, true, true, true, true, true, true, true, true, true, true, true, true, true, true, true, true, true, true, true, true, true, true, true, true, true, true, true, true, true, true, true, false, false], [false, false, false, false, false, false, false, false, false, false, false, false, false, false, false, false, false, false, false, false, false, false, false, false, false, false, false, false, false, false, false, false, false, false, false, false], [false, false, false, false, false, false, false, false, false, false, false, false, false, false, false, false, false, false, false, false, false, false, false, false, false, false, false, false, false, false, false, false, false, false, false, false, false]]) (κ (X40.mk m a b c a v2 v4 a v7 v9 a v12 v14 a v17 v19 a v22 v24 a v27 v29 a v32 v34 a v37 v39 a v42 v44 a v47 v49 a v52 v54 a v57 v59 v61) s)))))) (qz s)))) (qz s)))) (qz s)))) (qz s)))) (qz s)))) (qz s)))) (qz s)))) (qz s)))) (qz s)))) (qz s)))) (qz s)))) (qz s)) x s κ
theorem r72x1ok : RgOk P true o72x1 T40 r72x1 := fun _ _ x _ _ => by cases x; kernel_rfl
def S72 : SF X40 := (seqS (regS P t0.fq r72x0) (seqS (regS P t0.fq r72x1) retS))
theorem S72ok : Sh P t0.fq T40 c72v S72 := by
  have e : c72v = (.seq (.region 0 o72x0 false) (.seq (.region 1 o72x1 true) .ret)) := by kernel_rfl
  rw [e]
  exact (sh_seq (sh_reg r72x0ok) (sh_seq (sh_reg r72x1ok) sh_ret))
def A72 : List FV → Option X40 := fun l => match l with
  | [a] => some (X40.mk [] a .e .e .e .e .e .e .e .e .e .e .e .e .e .e .e .e .e .e .e .e .e .e .e .e .e .e .e .e .e .e .e .e .e .e .e .e .e .e .e)
  | _ => none
def L72 : LQ := shal P T40 S72 [.cell 2 131] 4000 A72
def E72 : LA := evCall P t0.fa 4000 72
theorem G72 : Good P 72 L72 E72 := good_shal all0 (by kernel_rfl) (show FT P 72 = some (c72v, 40, [.cell 2 131]) by kernel_rfl) S72ok (fun l x h => by
    unfold A72 at h
    split at h
    · cases h; exact ⟨by kernel_rfl, by kernel_rfl⟩
    · cases h) 4000
inductive X27 where
  | mk (m : List Nat) (a b c d f g h i l n o p r t u w y z A B C D E F G H I : FV)
def T27 (x : X27) : FF := X27.rec (motive := fun _ => FF) (fun m a b c d f g h i l n o p r t u w y z A B C D E F G H I => ⟨(.n a (.n b (.n g (.n D .e .e .e .e) .e .e .e) (.n n (.n H .e .e .e .e) .e .e .e) (.n t .e .e .e .e) (.n z .e .e .e .e)) (.n c (.n h (.n E .e .e .e .e) .e .e .e) (.n o (.n I .e .e .e .e) .e .e .e) (.n u .e .e .e .e) (.n A .e .e .e .e)) (.n d (.n i (.n F .e .e .e .e) .e .e .e) (.n p .e .e .e .e) (.n w .e .e .e .e) (.n B .e .e .e .e)) (.n f (.n l (.n G .e .e .e .e) .e .e .e) (.n r .e .e .e .e) (.n y .e .e .e .e) (.n C .e .e .e .e))), 27, m⟩) x
def c27v : Code := bodyOf P 27
def o27x0 : Array Oper := regO (pth [0] c27v)
def r27x0 : RG X27 := fun call yl x s κ => X27.rec (motive := fun _ => MO X27) (fun m a b c d f g h i l n o p r t u w y z A B C D E F G H I s κ => bxV b 53 s (fun v0 s => κ (X27.mk m a b c v0 (.o (.sl none 0 0)) g h i l n o p r t u w y z A B C D E F G H I) s)) x s κ
theorem r27x0ok : RgOk P false o27x0 T27 r27x0 := fun _ _ x _ _ => by cases x; kernel_rfl
def o27x1 : Array Oper := regO (pth [1, 0] c27v)
def r27x1 : RG X27 := fun call yl x s κ => X27.rec (motive := fun _ => MO X27) (fun m a b c d f g h i l n o p r t u w y z A B C D E F G H I s κ => ptrK d 1 s (fun v0 s => ldV v0 false 1 s (fun v1 s => buildSliceC P 23 1 [(0, v1)] s (fun v2 s => κ (X27.mk m a b c d f v2 h i v0 v1 v2 p r t u w y z A B C D E F G H I) s)))) x s κ
theorem r27x1ok : RgOk P false o27x1 T27 r27x1 := fun _ _ x _ _ => by cases x; kernel_rfl
def o27x2 : Array Oper := regO (pth [1, 1, 0, 0] c27v)
def r27x2 : RG X27 := fun call yl x s κ => X27.rec (motive := fun _ => MO X27) (fun m a b c d f g h i l n o p r t u w y z A B C D E F G H I s κ => ptrK d 29 s (fun v0 s => ldV v0 false 1 s (fun v1 s => lenC v1 P 23 s (fun v2 s => κ (X27.mk m a b c d f g h i l n o v0 v1 v2 (.i .i64 0) w y z A B C D E F G H I) s)))) x s κ
theorem r27x2ok : RgOk P false o27x2 T27 r27x2 := fun _ _ x _ _ => by cases x; kernel_rfl
def o27x3 : Array Oper := regO (pth [1, 1, 0, 1, 0, 0, 0] c27v)
def r27x3 : RG X27 := fun call yl x s κ => X27.rec (motive := fun _ => MO X27) (fun m a b c d f g h i l n o p r t u w y z A B C D E F G H I s κ => binC u t 3 .lss P s (fun v0 s => κ (X27.mk m a b c d f g h i l n o p r t u v0 y z A B C D E F G H I) s)) x s κ
theorem r27x3ok : RgOk P false o27x3 T27 r27x3 := fun _ _ x _ _ => by cases x; kernel_rfl
def o27x4 : Array Oper := regO (pth [1, 1, 0, 1, 0, 0, 1, 1, 0, 0, 0] c27v)
def r27x4 : RG X27 := fun call yl x s κ => X27.rec (motive := fun _ => MO X27) (fun m a b c d f g h i l n o p r t u w y z A B C D E F G H I s κ => natK u fun j => iaS r j 1 s (fun v0 s => ldV v0 false 1 s (fun v1 s => κ (X27.mk m a b c d f g h v1 l n o p r t u w v0 v1 A B C D E F G H I) s))) x s κ
theorem r27x4ok : RgOk P false o27x4 T27 r27x4 := fun _ _ x _ _ => by cases x; kernel_rfl
def o27x5 : Array Oper := regO (pth [1, 1, 0, 1, 0, 0, 1, 1, 0, 0, 1, 0] c27v)
def r27x5 : RG X27 := fun call yl x s κ => X27.rec (motive := fun _ => MO X27) (fun m a b c d f g h i l n o p r t u w y z A B C D E F G H I s κ => binC i a 3 .neq P s (fun v0 s => κ (X27.mk m a b c d f g h i l n o p r t u w y z i a v0 D E F G H I) s)) x s κ
theorem r27x5ok : RgOk P false o27x5 T27 r27x5 := fun _ _ x _ _ => by cases x; kernel_rfl
def o27x6 : Array Oper := regO (pth [1, 1, 0, 1, 0, 0, 1, 1, 0, 0, 1, 1, 0] c27v)
def r27x6 : RG X27 := fun call yl x s κ => X27.rec (motive := fun _ => MO X27) (fun m a b c d f g h i l n o p r t u w y z A B C D E F G H I s κ => buildSliceC P 23 1 [(0, i)] s (fun v0 s => appendC P 23 23 g v0 s (fun v1 s => κ (X27.mk m a b c d f v1 h i l n o p r t u w y z A B C g i v0 v1 H I) s))) x s κ
theorem r27x6ok : RgOk P false o27x6 T27 r27x6 := fun _ _ x _ _ => by cases x; kernel_rfl
def o27x7 : Array Oper := regO (pth [1, 1, 0, 1, 0, 0, 1, 1, 1] c27v)
def r27x7 : RG X27 := fun call yl x s κ => X27.rec (motive := fun _ => MO X27) (fun m a b c d f g h i l n o p r t u w y z A B C D E F G H I s κ => binC u (.i .i64 1) 3 .add P s (fun v0 s => κ (X27.mk m a b c d f g h i l n o p r t v0 w y z A B C D E F G v0 I) s)) x s κ
theorem r27x7ok : RgOk P false o27x7 T27 r27x7 := fun _ _ x _ _ => by cases x; kernel_rfl
def o27x8 : Array Oper := regO (pth [1, 1, 1, 0] c27v)
def r27x8 : RG X27 := fun call yl x s κ => X27.rec (motive := fun _ => MO X27) (fun m a b c d f g h i l n o p r t u w y z A B C D E F G H I s κ => κ (X27.mk m a b c d g g h i l n o p r t u w y z A B C D E F G H g) s) x s κ
theorem r27x8ok : RgOk P false o27x8 T27 r27x8 := fun _ _ x _ _ => by cases x; kernel_rfl
def S27 : SF X27 := (seqS (regS P t0.fq r27x0) (seqS (regS P t0.fq r27x1) (seqS (seqS (regS P t0.fq r27x2) (blkS 0 (loopS (seqS (regS P t0.fq r27x3) (seqS (condS (fun x => X27.rec (motive := fun _ => FV) (fun _ _ _ _ _ _ _ _ _ _ _ _ _ _ _ _ z _ _ _ _ _ _ _ _ _ _ _ => z) x) skipS (exitS 0)) (seqS (blkS 1 (seqS (regS P t0.fq r27x4) (seqS (regS P t0.fq r27x5) (condS (fun x => X27.rec (motive := fun _ => FV) (fun _ _ _ _ _ _ _ _ _ _ _ _ _ _ _ _ _ _ _ _ _ z _ _ _ _ _ _ => z) x) (regS P t0.fq r27x6) skipS)))) (regS P t0.fq r27x7))))))) (seqS (regS P t0.fq r27x8) retS))))
theorem S27ok : Sh P t0.fq T27 c27v S27 := by
  have e : c27v = (.seq (.region 0 o27x0 false) (.seq (.region 1 o27x1 false) (.seq (.seq (.region 2 o27x2 false) (.block 0 (.loop (.seq (.region 3 o27x3 false) (.seq (.cond (.tmp 15) .skip (.exit 0)) (.seq (.block 1 (.seq (.region 4 o27x4 false) (.seq (.region 5 o27x5 false) (.cond (.tmp 20) (.region 6 o27x6 false) .skip)))) (.region 7 o27x7 false))))))) (.seq (.region 8 o27x8 false) .ret)))) := by kernel_rfl
  rw [e]
  exact (sh_seq (sh_reg r27x0ok) (sh_seq (sh_reg r27x1ok) (sh_seq (sh_seq (sh_reg r27x2ok) (sh_blk 0 (sh_loop (sh_seq (sh_reg r27x3ok) (sh_seq (sh_cond (fun x => by cases x; rfl) sh_skip (sh_exit 0)) (sh_seq (sh_blk 1 (sh_seq (sh_reg r27x4ok) (sh_seq (sh_reg r27x5ok) (sh_cond (fun x => by cases x; rfl) (sh_reg r27x6ok) sh_skip)))) (sh_reg r27x7ok))))))) (sh_seq (sh_reg r27x8ok) sh_ret))))
def A27 : List FV → Option X27 := fun l => match l with
  | [a, b] => some (X27.mk [] a b .e .e .e .e .e .e .e .e .e .e .e .e .e .e .e .e .e .e .e .e .e .e .e .e .e)
  | _ => none
def L27 : LQ := shal P T27 S27 [.tmp 4] 4000 A27
def E27 : LA := evCall P t0.fa 4000 27
theorem G27 : Good P 27 L27 E27 := good_shal all0 (by kernel_rfl) (show FT P 27 = some (c27v, 27, [.tmp 4]) by kernel_rfl) S27ok (fun l x h => by
    unfold A27 at h
    split at h
    · cases h; exact ⟨by kernel_rfl, by kernel_rfl⟩
    · cases h) 4000
inductive X35 where
  | mk (m : List Nat) (a b c d f g h i l n o p r t u w y z A B C D E F G H I J K L M N O Q R : FV)
def T35 (x : X35) : FF := X35.rec (motive := fun _ => FF) (fun m a b c d f g h i l n o p r t u w y z A B C D E F G H I J K L M N O Q R => ⟨(.n a (.n b (.n g (.n D .e .e .e .e) .e .e .e) (.n n (.n H .e .e .e .e) .e .e .e) (.n t (.n L .e .e .e .e) .e .e .e) (.n z (.n Q .e .e .e .e) .e .e .e)) (.n c (.n h (.n E .e .e .e .e) .e .e .e) (.n o (.n I .e .e .e .e) .e .e .e) (.n u (.n M .e .e .e .e) .e .e .e) (.n A (.n R .e .e .e .e) .e .e .e)) (.n d (.n i (.n F .e .e .e .e) .e .e .e) (.n p (.n J .e .e .e .e) .e .e .e) (.n w (.n N .e .e .e .e) .e .e .e) (.n B .e .e .e .e)) (.n f (.n l (.n G .e .e .e .e) .e .e .e) (.n r (.n K .e .e .e .e) .e .e .e) (.n y (.n O .e .e .e .e) .e .e .e) (.n C .e .e .e .e))), 35, m⟩) x
def c69v : Code := bodyOf P 69
def o69x0 : Array Oper := regO (pth [0] c69v)
def r69x0 : RG X35 := fun call yl x s κ => X35.rec (motive := fun _ => MO X35) (fun m a b c d f g h i l n o p r t u w y z A B C D E F G H I J K L M N O Q R s κ => allocC P 51 s (fun v0 s => κ (X35.mk m a b v0 d f g h i l n o p r t u w y z A B C D E F G H I J K L M N O Q R) s)) x s κ
theorem r69x0ok : RgOk P false o69x0 T35 r69x0 := fun _ _ x _ _ => by cases x; kernel_rfl
def o69x1 : Array Oper := regO (pth [1, 0] c69v)
def r69x1 : RG X35 := fun call yl x s κ => X35.rec (motive := fun _ => MO X35) (fun m a b c d f g h i l n o p r t u w y z A B C D E F G H I J K L M N O Q R s κ => κ (X35.mk m a b c (.o (.sl none 0 0)) f g h i l n o p r t u w y z A B C D E F G H I J K L M N O Q R) s) x s κ
theorem r69x1ok : RgOk P false o69x1 T35 r69x1 := fun _ _ x _ _ => by cases x; kernel_rfl
def o69x2 : Array Oper := regO (pth [1, 1, 0, 0] c69v)
def r69x2 : RG X35 := fun call yl x s κ => X35.rec (motive := fun _ => MO X35) (fun m a b c d f g h i l n o p r t u w y z A B C D E F G H I J K L M N O Q R s κ => lenC a P 125 s (fun v0 s => κ (X35.mk m a b c d f g h i a v0 (.i .i64 0) p r t u w y z A B C D E F G H I J K L M N O Q R) s)) x s κ
theorem r69x2ok : RgOk P false o69x2 T35 r69x2 := fun _ _ x _ _ => by cases x; kernel_rfl
def o69x3 : Array Oper := regO (pth [1, 1, 0, 1, 0, 0, 0] c69v)
def r69x3 : RG X35 := fun call yl x s κ => X35.rec (motive := fun _ => MO X35) (fun m a b c d f g h i l n o p r t u w y z A B C D E F G H I J K L M N O Q R s κ => binC o n 3 .lss P s (fun v0 s => κ (X35.mk m a b c d f g h i l n o v0 r t u w y z A B C D E F G H I J K L M N O Q R) s)) x s κ
theorem r69x3ok : RgOk P false o69x3 T35 r69x3 := fun _ _ x _ _ => by cases x; kernel_rfl
def o69x4 : Array Oper := regO (pth [1, 1, 0, 1, 0, 0, 1, 1, 0, 0, 0] c69v)
def r69x4 : RG X35 := fun call yl x s κ => X35.rec (motive := fun _ => MO X35) (fun m a b c d f g h i l n o p r t u w y z A B C D E F G H I J K L M N O Q R s κ => natK o fun j => iaS l j 1 s (fun v0 s => ldV v0 false 1 s (fun v1 s => κ (X35.mk m a b c d f v1 h i l n o p v0 v1 u w y z A B C D E F G H I J K L M N O Q R) s))) x s κ
theorem r69x4ok : RgOk P false o69x4 T35 r69x4 := fun _ _ x _ _ => by cases x; kernel_rfl
def o69x5 : Array Oper := regO (pth [1, 1, 0, 1, 0, 0, 1, 1, 0, 0, 1, 0] c69v)
def r69x5 : RG X35 := fun call yl x s κ => X35.rec (motive := fun _ => MO X35) (fun m a b c d f g h i l n o p r t u w y z A B C D E F G H I J K L M N O Q R s κ => allocC P 158 s (fun v0 s => κ (X35.mk m a b c d f g v0 i l n o p r t u w y z A B C D E F G H I J K L M N O Q R) s)) x s κ
theorem r69x5ok : RgOk P false o69x5 T35 r69x5 := fun _ _ x _ _ => by cases x; kernel_rfl
def o69x6 : Array Oper := regO (pth [1, 1, 0, 1, 0, 0, 1, 1, 0, 0, 1, 1, 0, 0] c69v)
def r69x6 : RG X35 := fun call yl x s κ => X35.rec (motive := fun _ => MO X35) (fun m a b c d f g h i l n o p r t u w y z A B C D E F G H I J K L M N O Q R s κ => κ (X35.mk m a b c d f g h i l n o p r t (.i .i64 0) w y z A B C D E F G H I J K L M N O Q R) s) x s κ
theorem r69x6ok : RgOk P false o69x6 T35 r69x6 := fun _ _ x _ _ => by cases x; kernel_rfl
def o69x7 : Array Oper := regO (pth [1, 1, 0, 1, 0, 0, 1, 1, 0, 0, 1, 1, 0, 1, 0, 0, 0] c69v)
def r69x7 : RG X35 := fun call yl x s κ => X35.rec (motive := fun _ => MO X35) (fun m a b c d f g h i l n o p r t u w y z A B C D E F G H I J K L M N O Q R s κ => binC u (.i .i64 8) 3 .lss P s (fun v0 s => κ (X35.mk m a b c d f g h i l n o p r t u v0 y z A B C D E F G H I J K L M N O Q R) s)) x s κ
theorem r69x7ok : RgOk P false o69x7 T35 r69x7 := fun _ _ x _ _ => by cases x; kernel_rfl
def o69x8 : Array Oper := regO (pth [1, 1, 0, 1, 0, 0, 1, 1, 0, 0, 1, 1, 0, 1, 0, 0, 1, 1, 0, 0, 0] c69v)
def r69x8 : RG X35 := fun call yl x s κ => X35.rec (motive := fun _ => MO X35) (fun m a b c d f g h i l n o p r t u w y z A B C D E F G H I J K L M N O Q R s κ => κ (X35.mk m a b c d f g h u l n o p r t u w u z A B C D E F G H I J K L M N O Q R) s) x s κ
theorem r69x8ok : RgOk P false o69x8 T35 r69x8 := fun _ _ x _ _ => by cases x; kernel_rfl
def o69x9 : Array Oper := regO (pth [1, 1, 0, 1, 0, 0, 1, 1, 0, 0, 1, 1, 0, 1, 0, 0, 1, 1, 0, 0, 1] c69v)
def r69x9 : RG X35 := fun call yl x s κ => X35.rec (motive := fun _ => MO X35) (fun m a b c d f g h i l n o p r t u w y z A B C D E F G H I J K L M N O Q R s κ => lenC g P 57 s (fun v0 s => cvV v0 .u64 s (fun v1 s => binC (.i .i64 8) i 3 .mul P s (fun v2 s => binC v1 v2 159 .shr P s (fun v3 s => cvV v3 .u8 s (fun v4 s => natK i fun j => iaP h 8 j 1 s (fun v5 s => stA v5 v4 1 s (fun _ s => κ (X35.mk m a b c d f g h i l n o p r t u w y i g v0 v1 i v2 v3 v4 v5 I J K L M N O Q R) s)))))))) x s κ
theorem r69x9ok : RgOk P false o69x9 T35 r69x9 := fun _ _ x _ _ => by cases x; kernel_rfl
def o69x10 : Array Oper := regO (pth [1, 1, 0, 1, 0, 0, 1, 1, 0, 0, 1, 1, 0, 1, 0, 0, 1, 1, 1] c69v)
def r69x10 : RG X35 := fun call yl x s κ => X35.rec (motive := fun _ => MO X35) (fun m a b c d f g h i l n o p r t u w y z A B C D E F G H I J K L M N O Q R s κ => binC u (.i .i64 1) 3 .add P s (fun v0 s => κ (X35.mk m a b c d f g h i l n o p r t v0 w y z A B C D E F G H v0 J K L M N O Q R) s)) x s κ
theorem r69x10ok : RgOk P false o69x10 T35 r69x10 := fun _ _ x _ _ => by cases x; kernel_rfl
def o69x11 : Array Oper := regO (pth [1, 1, 0, 1, 0, 0, 1, 1, 0, 0, 1, 1, 1] c69v)
def r69x11 : RG X35 := fun call yl x s κ => X35.rec (motive := fun _ => MO X35) (fun m a b c d f g h i l n o p r t u w y z A B C D E F G H I J K L M N O Q R s κ => sliceC P 158 h none none none s (fun v0 s => buildSliceC P 125 2 [(0, v0), (1, g)] s (fun v1 s => appendC P 125 125 d v1 s (fun v2 s => κ (X35.mk m a b c v2 f g h i l n o p r t u w y z A B C D E F G H I d v0 g v1 v2 O Q R) s)))) x s κ
theorem r69x11ok : RgOk P false o69x11 T35 r69x11 := fun _ _ x _ _ => by cases x; kernel_rfl
def o69x12 : Array Oper := regO (pth [1, 1, 0, 1, 0, 0, 1, 1, 1] c69v)
def r69x12 : RG X35 := fun call yl x s κ => X35.rec (motive := fun _ => MO X35) (fun m a b c d f g h i l n o p r t u w y z A B C D E F G H I J K L M N O Q R s κ => binC o (.i .i64 1) 3 .add P s (fun v0 s => κ (X35.mk m a b c d f g h i l n v0 p r t u w y z A B C D E F G H I J K L M N v0 Q R) s)) x s κ
theorem r69x12ok : RgOk P false o69x12 T35 r69x12 := fun _ _ x _ _ => by cases x; kernel_rfl
def o69x13 : Array Oper := regO (pth [1, 1, 1, 0] c69v)
def r69x13 : RG X35 := fun call yl x s κ => X35.rec (motive := fun _ => MO X35) (fun m a b c d f g h i l n o p r t u w y z A B C D E F G H I J K L M N O Q R s κ => call 92 [d] s (fun v0 s => stA c v0 32 s (fun _ s => κ (X35.mk m a b c d f g h i l n o p r t u w y z A B C D E F G H I J K L M N O d v0) s))) x s κ
theorem r69x13ok : RgOk P false o69x13 T35 r69x13 := fun _ _ x _ _ => by cases x; kernel_rfl
def S69 : SF X35 := (seqS (regS P t0.fq r69x0) (seqS (regS P t0.fq r69x1) (seqS (seqS (regS P t0.fq r69x2) (blkS 0 (loopS (seqS (regS P t0.fq r69x3) (seqS (condS (fun x => X35.rec (motive := fun _ => FV) (fun _ _ _ _ _ _ _ _ _ _ _ _ z _ _ _ _ _ _ _ _ _ _ _ _ _ _ _ _ _ _ _ _ _ _ _ => z) x) skipS (exitS 0)) (seqS (blkS 1 (seqS (regS P t0.fq r69x4) (seqS (regS P t0.fq r69x5) (seqS (seqS (regS P t0.fq r69x6) (blkS 2 (loopS (seqS (regS P t0.fq r69x7) (seqS (condS (fun x => X35.rec (motive := fun _ => FV) (fun _ _ _ _ _ _ _ _ _ _ _ _ _ _ _ _ z _ _ _ _ _ _ _ _ _ _ _ _ _ _ _ _ _ _ _ => z) x) skipS (exitS 2)) (seqS (blkS 3 (seqS (regS P t0.fq r69x8) (regS P t0.fq r69x9))) (regS P t0.fq r69x10))))))) (regS P t0.fq r69x11))))) (regS P t0.fq r69x12))))))) (seqS (regS P t0.fq r69x13) retS))))
theorem S69ok : Sh P t0.fq T35 c69v S69 := by
  have e : c69v = (.seq (.region 0 o69x0 false) (.seq (.region 1 o69x1 false) (.seq (.seq (.region 2 o69x2 false) (.block 0 (.loop (.seq (.region 3 o69x3 false) (.seq (.cond (.tmp 11) .skip (.exit 0)) (.seq (.block 1 (.seq (.region 4 o69x4 false) (.seq (.region 5 o69x5 false) (.seq (.seq (.region 6 o69x6 false) (.block 2 (.loop (.seq (.region 7 o69x7 false) (.seq (.cond (.tmp 15) .skip (.exit 2)) (.seq (.block 3 (.seq (.region 8 o69x8 false) (.region 9 o69x9 false))) (.region 10 o69x10 false))))))) (.region 11 o69x11 false))))) (.region 12 o69x12 false))))))) (.seq (.region 13 o69x13 false) .ret)))) := by kernel_rfl
  rw [e]
  exact (sh_seq (sh_reg r69x0ok) (sh_seq (sh_reg r69x1ok) (sh_seq (sh_seq (sh_reg r69x2ok) (sh_blk 0 (sh_loop (sh_seq (sh_reg r69x3ok) (sh_seq (sh_cond (fun x => by cases x; rfl) sh_skip (sh_exit 0)) (sh_seq (sh_blk 1 (sh_seq (sh_reg r69x4ok) (sh_seq (sh_reg r69x5ok) (sh_seq (sh_seq (sh_reg r69x6ok) (sh_blk 2 (sh_loop (sh_seq (sh_reg r69x7ok) (sh_seq (sh_cond (fun x => by cases x; rfl) sh_skip (sh_exit 2)) (sh_seq (sh_blk 3 (sh_seq (sh_reg r69x8ok) (sh_reg r69x9ok))) (sh_reg r69x10ok))))))) (sh_reg r69x11ok))))) (sh_reg r69x12ok))))))) (sh_seq (sh_reg r69x13ok) sh_ret))))
def A69 : List FV → Option X35 := fun l => match l with
  | [a] => some (X35.mk [] a .e .e .e .e .e .e .e .e .e .e .e .e .e .e .e .e .e .e .e .e .e .e .e .e .e .e .e .e .e .e .e .e .e .e)
  | _ => none
def L69 : LQ := shal P T35 S69 [.cell 2 51] 4000 A69
def E69 : LA := evCall P t0.fa 4000 69
theorem G69 : Good P 69 L69 E69 := good_shal all0 (by kernel_rfl) (show FT P 69 = some (c69v, 35, [.cell 2 51]) by kernel_rfl) S69ok (fun l x h => by
    unfold A69 at h
    split at h
    · cases h; exact ⟨by kernel_rfl, by kernel_rfl⟩
    · cases h) 4000
def t1 : LT := (.n 66 L66 E66 (.n 32 L32 E32 (.n 23 L23 E23 (.n 13 L13 E13 (.n 7 L7 E7 .e .e) (.n 21 L21 E21 .e .e)) (.n 27 L27 E27 (.n 26 L26 E26 .e .e) .e)) (.n 59 L59 E59 (.n 56 L56 E56 (.n 46 L46 E46 .e .e) .e) (.n 63 L63 E63 (.n 60 L60 E60 .e .e) .e))) (.n 94 L94 E94 (.n 72 L72 E72 (.n 68 L68 E68 (.n 67 L67 E67 .e .e) (.n 69 L69 E69 .e .e)) (.n 92 L92 E92 (.n 83 L83 E83 .e .e) .e)) (.n 97 L97 E97 (.n 96 L96 E96 (.n 95 L95 E95 .e .e) .e) (.n 125 L125 E125 (.n 116 L116 E116 .e .e) .e))))
theorem all1 : t1.all (Good P) := ⟨G66, ⟨G32, ⟨G23, ⟨G13, ⟨G7, trivial, trivial⟩, ⟨G21, trivial, trivial⟩⟩, ⟨G27, ⟨G26, trivial, trivial⟩, trivial⟩⟩, ⟨G59, ⟨G56, ⟨G46, trivial, trivial⟩, trivial⟩, ⟨G63, ⟨G60, trivial, trivial⟩, trivial⟩⟩⟩, ⟨G94, ⟨G72, ⟨G68, ⟨G67, trivial, trivial⟩, ⟨G69, trivial, trivial⟩⟩, ⟨G92, ⟨G83, trivial, trivial⟩, trivial⟩⟩, ⟨G97, ⟨G96, ⟨G95, trivial, trivial⟩, trivial⟩, ⟨G125, ⟨G116, trivial, trivial⟩, trivial⟩⟩⟩⟩
end
end Q
end V
end Go.CE
namespace Go.CE
namespace V
namespace Q
set_option maxRecDepth 100000
noncomputable section
variable [Sym] [SymOk]
def c71v : Code := bodyOf P 71
def o71x0 : Array Oper := regO (pth [0] c71v)
def r71x0 : RG X12 := fun call yl x s κ => X12.rec (motive := fun _ => MO X12) (fun m a b c d f g h i l n o p s κ => bxV a 51 s (fun v0 s => bxV b 59 s (fun v1 s => allocC P 51 s (fun v2 s => κ (X12.mk m a b v0 v1 v2 g h i l n o p) s)))) x s κ
theorem r71x0ok : RgOk P false o71x0 T12 r71x0 := fun _ _ x _ _ => by cases x; kernel_rfl
def o71x1 : Array Oper := regO (pth [1, 0] c71v)
def r71x1 : RG X12 := fun call yl x s κ => X12.rec (motive := fun _ => MO X12) (fun m a b c d f g h i l n o p s κ => sandS (fun s κ1 => ldV c true 32 s (κ1)) s (fun qv0 v1 s => sandS (fun s κ1 => ldV d true 36 s (κ1)) s (fun qv2 v3 s => sandS (fun s κ1 => call 97 [v3] s (κ1)) s (fun qv4 v5 s => sandS (fun s κ1 => ptrK d 3 s (κ1)) s (fun qv6 v7 s => sandS (fun s κ1 => ldV v7 false 1 s (κ1)) s (fun qv8 v9 s => sandS (fun s κ1 => appendC P 57 57 v5 v9 s (κ1)) s (fun qv10 v11 s => sandS (fun s κ1 => call 96 [v1, v11] s (κ1)) s (fun qv12 v13 s => sandS (fun s κ1 => stA f v13 32 s (κ1)) s (fun qv14 v15 s => V.iff (dynA [] [qv0, qv2, qv4, qv6, qv8, qv10, qv12, qv14] [[], [true], [true, false], [true, true, true], [true, true, true, false], [true, false, false, false, false], [false, false, false, false, false, false], [false, false, false, false, false, false, false]]) (κ (X12.mk m a b c d f v1 v3 v5 v7 v9 v11 v13) s)))))))))) x s κ
theorem r71x1ok : RgOk P true o71x1 T12 r71x1 := fun _ _ x _ _ => by cases x; kernel_rfl
def S71 : SF X12 := (seqS (regS P t1.fq r71x0) (seqS (regS P t1.fq r71x1) retS))
theorem S71ok : Sh P t1.fq T12 c71v S71 := by
  have e : c71v = (.seq (.region 0 o71x0 false) (.seq (.region 1 o71x1 true) .ret)) := by kernel_rfl
  rw [e]
  exact (sh_seq (sh_reg r71x0ok) (sh_seq (sh_reg r71x1ok) sh_ret))
def A71 : List FV → Option X12 := fun l => match l with
  | [a, b] => some (X12.mk [] a b .e .e .e .e .e .e .e .e .e .e)
  | _ => none
def L71 : LQ := shal P T12 S71 [.cell 4 51] 4000 A71
def E71 : LA := evCall P t1.fa 4000 71
theorem G71 : Good P 71 L71 E71 := good_shal all1 (by kernel_rfl) (show FT P 71 = some (c71v, 12, [.cell 4 51]) by kernel_rfl) S71ok (fun l x h => by
    unfold A71 at h
    split at h
    · cases h; exact ⟨by kernel_rfl, by kernel_rfl⟩
    · cases h) 4000
def c58v : Code := bodyOf P 58
def o58x0 : Array Oper := regO (pth [0] c58v)
def r58x0 : RG X9 := fun call yl x s κ => X9.rec (motive := fun _ => MO X9) (fun m a b c d f g h i l s κ => κ (X9.mk m a b c d (.b false) g h i l) s) x s κ
theorem r58x0ok : RgOk P false o58x0 T9 r58x0 := fun _ _ x _ _ => by cases x; kernel_rfl
def o58x1 : Array Oper := regO (pth [1, 0] c58v)
def r58x1 : RG X9 := fun call yl x s κ => X9.rec (motive := fun _ => MO X9) (fun m a b c d f g h i l s κ => call 32 [a, b] s (fun v0 s => binC v0 (.i .i64 0) 3 .geq P s (fun v1 s => κ (X9.mk m a b c d v1 a b v0 v1) s))) x s κ
theorem r58x1ok : RgOk P false o58x1 T9 r58x1 := fun _ _ x _ _ => by cases x; kernel_rfl
def S58 : SF X9 := (seqS (regS P t1.fq r58x0) (seqS (regS P t1.fq r58x1) retS))
theorem S58ok : Sh P t1.fq T9 c58v S58 := by
  have e : c58v = (.seq (.region 0 o58x0 false) (.seq (.region 1 o58x1 false) .ret)) := by kernel_rfl
  rw [e]
  exact (sh_seq (sh_reg r58x0ok) (sh_seq (sh_reg r58x1ok) sh_ret))
def A58 : List FV → Option X9 := fun l => match l with
  | [a, b] => some (X9.mk [] a b .e .e .e .e .e .e .e)
  | _ => none
def L58 : LQ := shal P T9 S58 [.tmp 4] 4000 A58
def E58 : LA := evCall P t1.fa 4000 58
theorem G58 : Good P 58 L58 E58 := good_shal all1 (by kernel_rfl) (show FT P 58 = some (c58v, 9, [.tmp 4]) by kernel_rfl) S58ok (fun l x h => by
    unfold A58 at h
    split at h
    · cases h; exact ⟨by kernel_rfl, by kernel_rfl⟩
    · cases h) 4000
inductive X34 where
  | mk (m : List Nat) (a b c d f g h i l n o p r t u w y z A B C D E F G H I J K L M N O Q : FV)
def T34 (x : X34) : FF := X34.rec (motive := fun _ => FF) (fun m a b c d f g h i l n o p r t u w y z A B C D E F G H I J K L M N O Q => ⟨(.n a (.n b (.n g (.n D .e .e .e .e) .e .e .e) (.n n (.n H .e .e .e .e) .e .e .e) (.n t (.n L .e .e .e .e) .e .e .e) (.n z (.n Q .e .e .e .e) .e .e .e)) (.n c (.n h (.n E .e .e .e .e) .e .e .e) (.n o (.n I .e .e .e .e) .e .e .e) (.n u (.n M .e .e .e .e) .e .e .e) (.n A .e .e .e .e)) (.n d (.n i (.n F .e .e .e .e) .e .e .e) (.n p (.n J .e .e .e .e) .e .e .e) (.n w (.n N .e .e .e .e) .e .e .e) (.n B .e .e .e .e)) (.n f (.n l (.n G .e .e .e .e) .e .e .e) (.n r (.n K .e .e .e .e) .e .e .e) (.n y (.n O .e .e .e .e) .e .e .e) (.n C .e .e .e .e))), 34, m⟩) x
def c93v : Code := bodyOf P 93
def o93x0 : Array Oper := regO (pth [0] c93v)
def r93x0 : RG X34 := fun call yl x s κ => X34.rec (motive := fun _ => MO X34) (fun m a b c d f g h i l n o p r t u w y z A B C D E F G H I J K L M N O Q s κ => bxV a 59 s (fun v0 s => κ (X34.mk m a v0 (.b false) d f g h i l n o p r t u w y z A B C D E F G H I J K L M N O Q) s)) x s κ
theorem r93x0ok : RgOk P false o93x0 T34 r93x0 := fun _ _ x _ _ => by cases x; kernel_rfl
def o93x1 : Array Oper := regO (pth [1, 0] c93v)
def r93x1 : RG X34 := fun call yl x s κ => X34.rec (motive := fun _ => MO X34) (fun m a b c d f g h i l n o p r t u w y z A B C D E F G H I J K L M N O Q s κ => ptrK b 0 s (fun v0 s => ldV v0 false 1 s (fun v1 s => call 116 [v1] s (fun v2 s => bnk (fun κ1 => wantC v2 true (ptrK b 1 s (κ1)) (κ1 .e s)) (fun v3 s => bnk (fun κ1 => wantC v2 true (ldV v3 false 1 s (κ1)) (κ1 .e s)) (fun v4 s => bnk (fun κ1 => wantC v2 true (call 116 [v4] s (κ1)) (κ1 .e s)) (fun v5 s => bnk (fun κ0 => condB v2 (κ0 v5 s) (κ0 (.b false) s)) (fun v6 s => bnk (fun κ1 => wantC v6 true (ptrK b 0 s (κ1)) (κ1 .e s)) (fun v7 s => bnk (fun κ1 => wantC v6 true (ldV v7 false 1 s (κ1)) (κ1 .e s)) (fun v8 s => bnk (fun κ1 => wantC v6 true (ptrK b 1 s (κ1)) (κ1 .e s)) (fun v9 s => bnk (fun κ1 => wantC v6 true (ldV v9 false 1 s (κ1)) (κ1 .e s)) (fun v10 s => bnk (fun κ1 => wantC v6 true (binC v8 v10 3 .neq P s (κ1)) (κ1 .e s)) (fun v11 s => bnk (fun κ0 => condB v6 (κ0 v11 s) (κ0 (.b false) s)) (fun v12 s => bnk (fun κ1 => wantC v12 true (ptrK b 2 s (κ1)) (κ1 .e s)) (fun v13 s => bnk (fun κ1 => wantC v12 true (ldV v13 false 1 s (κ1)) (κ1 .e s)) (fun v14 s => bnk (fun κ1 => wantC v12 true (binC (.i .i64 1) v14 3 .leq P s (κ1)) (κ1 .e s)) (fun v15 s => bnk (fun κ0 => condB v12 (κ0 v15 s) (κ0 (.b false) s)) (fun v16 s => bnk (fun κ1 => wantC v16 true (ptrK b 2 s (κ1)) (κ1 .e s)) (fun v17 s => bnk (fun κ1 => wantC v16 true (ldV v17 false 1 s (κ1)) (κ1 .e s)) (fun v18 s => bnk (fun κ1 => wantC v16 true (binC v18 (.i .i64 1099511627776) 3 .leq P s (κ1)) (κ1 .e s)) (fun v19 s => bnk (fun κ0 => condB v16 (κ0 v19 s) (κ0 (.b false) s)) (fun v20 s => bnk (fun κ1 => wantC v20 true (ptrK b 3 s (κ1)) (κ1 .e s)) (fun v21 s => bnk (fun κ1 => wantC v20 true (ldV v21 false 1 s (κ1)) (κ1 .e s)) (fun v22 s => bnk (fun κ1 => wantC v20 true (lenC v22 P 57 s (κ1)) (κ1 .e s)) (fun v23 s => bnk (fun κ1 => wantC v20 true (binC v23 (.i .i64 1048576) 3 .leq P s (κ1)) (κ1 .e s)) (fun v24 s => bnk (fun κ0 => condB v20 (κ0 v24 s) (κ0 (.b false) s)) (fun v25 s => κ (X34.mk m a b v25 v0 v1 v2 v2 v3 v4 v5 v6 v6 v7 v8 v9 v10 v11 v12 v12 v13 v14 v15 v16 v16 v17 v18 v19 v20 v20 v21 v22 v23 v24 v25) s))))))))))))))))))))))))))) x s κ
theorem r93x1ok : RgOk P false o93x1 T34 r93x1 := fun _ _ x _ _ => by cases x; kernel_rfl
def S93 : SF X34 := (seqS (regS P t1.fq r93x0) (seqS (regS P t1.fq r93x1) retS))
theorem S93ok : Sh P t1.fq T34 c93v S93 := by
  have e : c93v = (.seq (.region 0 o93x0 false) (.seq (.region 1 o93x1 false) .ret)) := by kernel_rfl
  rw [e]
  exact (sh_seq (sh_reg r93x0ok) (sh_seq (sh_reg r93x1ok) sh_ret))
def A93 : List FV → Option X34 := fun l => match l with
  | [a] => some (X34.mk [] a .e .e .e .e .e .e .e .e .e .e .e .e .e .e .e .e .e .e .e .e .e .e .e .e .e .e .e .e .e .e .e .e .e)
  | _ => none
def L93 : LQ := shal P T34 S93 [.tmp 2] 4000 A93
def E93 : LA := evCall P t1.fa 4000 93
theorem G93 : Good P 93 L93 E93 := good_shal all1 (by kernel_rfl) (show FT P 93 = some (c93v, 34, [.tmp 2]) by kernel_rfl) S93ok (fun l x h => by
    unfold A93 at h
    split at h
    · cases h; exact ⟨by kernel_rfl, by kernel_rfl⟩
    · cases h) 4000
inductive X22 where
  | mk (m : List Nat) (a b c d f g h i l n o p r t u w y z A B C D : FV)
def T22 (x : X22) : FF := X22.rec (motive := fun _ => FF) (fun m a b c d f g h i l n o p r t u w y z A B C D => ⟨(.n a (.n b (.n g (.n D .e .e .e .e) .e .e .e) (.n n .e .e .e .e) (.n t .e .e .e .e) (.n z .e .e .e .e)) (.n c (.n h .e .e .e .e) (.n o .e .e .e .e) (.n u .e .e .e .e) (.n A .e .e .e .e)) (.n d (.n i .e .e .e .e) (.n p .e .e .e .e) (.n w .e .e .e .e) (.n B .e .e .e .e)) (.n f (.n l .e .e .e .e) (.n r .e .e .e .e) (.n y .e .e .e .e) (.n C .e .e .e .e))), 22, m⟩) x
def c33v : Code := bodyOf P 33
def o33x0 : Array Oper := regO (pth [0] c33v)
def r33x0 : RG X22 := fun call yl x s κ => X22.rec (motive := fun _ => MO X22) (fun m a b c d f g h i l n o p r t u w y z A B C D s κ => κ (X22.mk m a b (.o (.sl none 0 0)) d f g h i l n o p r t u w y z A B C D) s) x s κ
theorem r33x0ok : RgOk P false o33x0 T22 r33x0 := fun _ _ x _ _ => by cases x; kernel_rfl
def o33x1 : Array Oper := regO (pth [1, 0] c33v)
def r33x1 : RG X22 := fun call yl x s κ => X22.rec (motive := fun _ => MO X22) (fun m a b c d f g h i l n o p r t u w y z A B C D s κ => κ (X22.mk m a b c (.o (.sl none 0 0)) f g h i l n o p r t u w y z A B C D) s) x s κ
theorem r33x1ok : RgOk P false o33x1 T22 r33x1 := fun _ _ x _ _ => by cases x; kernel_rfl
def o33x2 : Array Oper := regO (pth [1, 1, 0, 0] c33v)
def r33x2 : RG X22 := fun call yl x s κ => X22.rec (motive := fun _ => MO X22) (fun m a b c d f g h i l n o p r t u w y z A B C D s κ => lenC a P 30 s (fun v0 s => κ (X22.mk m a b c d f g a v0 (.i .i64 0) n o p r t u w y z A B C D) s)) x s κ
theorem r33x2ok : RgOk P false o33x2 T22 r33x2 := fun _ _ x _ _ => by cases x; kernel_rfl
def o33x3 : Array Oper := regO (pth [1, 1, 0, 1, 0, 0, 0] c33v)
def r33x3 : RG X22 := fun call yl x s κ => X22.rec (motive := fun _ => MO X22) (fun m a b c d f g h i l n o p r t u w y z A B C D s κ => binC l i 3 .lss P s (fun v0 s => κ (X22.mk m a b c d f g h i l v0 o p r t u w y z A B C D) s)) x s κ
theorem r33x3ok : RgOk P false o33x3 T22 r33x3 := fun _ _ x _ _ => by cases x; kernel_rfl
def o33x4 : Array Oper := regO (pth [1, 1, 0, 1, 0, 0, 1, 1, 0, 0, 0] c33v)
def r33x4 : RG X22 := fun call yl x s κ => X22.rec (motive := fun _ => MO X22) (fun m a b c d f g h i l n o p r t u w y z A B C D s κ => natK l fun j => iaS h j 36 s (fun v0 s => ldV v0 true 36 s (fun v1 s => allocC P 59 s (fun v2 s => stA v2 v1 36 s (fun _ s => κ (X22.mk m a b c d f v2 h i l n v0 v1 r t u w y z A B C D) s))))) x s κ
theorem r33x4ok : RgOk P false o33x4 T22 r33x4 := fun _ _ x _ _ => by cases x; kernel_rfl
def o33x5 : Array Oper := regO (pth [1, 1, 0, 1, 0, 0, 1, 1, 0, 0, 1, 0] c33v)
def r33x5 : RG X22 := fun call yl x s κ => X22.rec (motive := fun _ => MO X22) (fun m a b c d f g h i l n o p r t u w y z A B C D s κ => ptrK g 3 s (fun v0 s => ldV v0 false 1 s (fun v1 s => call 66 [v1] s (fun v2 s => ptrK g 3 s (fun v3 s => stA v3 v2 1 s (fun _ s => κ (X22.mk m a b c d f g h i l n o p v0 v1 v2 v3 y z A B C D) s)))))) x s κ
theorem r33x5ok : RgOk P false o33x5 T22 r33x5 := fun _ _ x _ _ => by cases x; kernel_rfl
def o33x6 : Array Oper := regO (pth [1, 1, 0, 1, 0, 0, 1, 1, 0, 0, 1, 1] c33v)
def r33x6 : RG X22 := fun call yl x s κ => X22.rec (motive := fun _ => MO X22) (fun m a b c d f g h i l n o p r t u w y z A B C D s κ => ldV g true 36 s (fun v0 s => buildSliceC P 30 1 [(0, v0)] s (fun v1 s => appendC P 30 30 d v1 s (fun v2 s => κ (X22.mk m a b c v2 f g h i l n o p r t u w d v0 v1 v2 C D) s)))) x s κ
theorem r33x6ok : RgOk P false o33x6 T22 r33x6 := fun _ _ x _ _ => by cases x; kernel_rfl
def o33x7 : Array Oper := regO (pth [1, 1, 0, 1, 0, 0, 1, 1, 1] c33v)
def r33x7 : RG X22 := fun call yl x s κ => X22.rec (motive := fun _ => MO X22) (fun m a b c d f g h i l n o p r t u w y z A B C D s κ => binC l (.i .i64 1) 3 .add P s (fun v0 s => κ (X22.mk m a b c d f g h i v0 n o p r t u w y z A B v0 D) s)) x s κ
theorem r33x7ok : RgOk P false o33x7 T22 r33x7 := fun _ _ x _ _ => by cases x; kernel_rfl
def o33x8 : Array Oper := regO (pth [1, 1, 1, 0] c33v)
def r33x8 : RG X22 := fun call yl x s κ => X22.rec (motive := fun _ => MO X22) (fun m a b c d f g h i l n o p r t u w y z A B C D s κ => κ (X22.mk m a b d d f g h i l n o p r t u w y z A B C d) s) x s κ
theorem r33x8ok : RgOk P false o33x8 T22 r33x8 := fun _ _ x _ _ => by cases x; kernel_rfl
def S33 : SF X22 := (seqS (regS P t1.fq r33x0) (seqS (regS P t1.fq r33x1) (seqS (seqS (regS P t1.fq r33x2) (blkS 0 (loopS (seqS (regS P t1.fq r33x3) (seqS (condS (fun x => X22.rec (motive := fun _ => FV) (fun _ _ _ _ _ _ _ _ _ _ z _ _ _ _ _ _ _ _ _ _ _ _ => z) x) skipS (exitS 0)) (seqS (blkS 1 (seqS (regS P t1.fq r33x4) (seqS (regS P t1.fq r33x5) (regS P t1.fq r33x6)))) (regS P t1.fq r33x7))))))) (seqS (regS P t1.fq r33x8) retS))))
theorem S33ok : Sh P t1.fq T22 c33v S33 := by
  have e : c33v = (.seq (.region 0 o33x0 false) (.seq (.region 1 o33x1 false) (.seq (.seq (.region 2 o33x2 false) (.block 0 (.loop (.seq (.region 3 o33x3 false) (.seq (.cond (.tmp 9) .skip (.exit 0)) (.seq (.block 1 (.seq (.region 4 o33x4 false) (.seq (.region 5 o33x5 false) (.region 6 o33x6 false)))) (.region 7 o33x7 false))))))) (.seq (.region 8 o33x8 false) .ret)))) := by kernel_rfl
  rw [e]
  exact (sh_seq (sh_reg r33x0ok) (sh_seq (sh_reg r33x1ok) (sh_seq (sh_seq (sh_reg r33x2ok) (sh_blk 0 (sh_loop (sh_seq (sh_reg r33x3ok) (sh_seq (sh_cond (fun x => by cases x; rfl) sh_skip (sh_exit 0)) (sh_seq (sh_blk 1 (sh_seq (sh_reg r33x4ok) (sh_seq (sh_reg r33x5ok) (sh_reg r33x6ok)))) (sh_reg r33x7ok))))))) (sh_seq (sh_reg r33x8ok) sh_ret))))
def A33 : List FV → Option X22 := fun l => match l with
  | [a] => some (X22.mk [] a .e .e .e .e .e .e .e .e .e .e .e .e .e .e .e .e .e .e .e .e .e)
  | _ => none
def L33 : LQ := shal P T22 S33 [.tmp 2] 4000 A33
def E33 : LA := evCall P t1.fa 4000 33
theorem G33 : Good P 33 L33 E33 := good_shal all1 (by kernel_rfl) (show FT P 33 = some (c33v, 22, [.tmp 2]) by kernel_rfl) S33ok (fun l x h => by
    unfold A33 at h
    split at h
    · cases h; exact ⟨by kernel_rfl, by kernel_rfl⟩
    · cases h) 4000
inductive X16 where
  | mk (m : List Nat) (a b c d f g h i l n o p r t u w : FV)
def T16 (x : X16) : FF := X16.rec (motive := fun _ => FF) (fun m a b c d f g h i l n o p r t u w => ⟨(.n a (.n b (.n g .e .e .e .e) (.n n .e .e .e .e) (.n t .e .e .e .e) .e) (.n c (.n h .e .e .e .e) (.n o .e .e .e .e) (.n u .e .e .e .e) .e) (.n d (.n i .e .e .e .e) (.n p .e .e .e .e) (.n w .e .e .e .e) .e) (.n f (.n l .e .e .e .e) (.n r .e .e .e .e) .e .e)), 16, m⟩) x
def c34v : Code := bodyOf P 34
def o34x0 : Array Oper := regO (pth [0] c34v)
def r34x0 : RG X16 := fun call yl x s κ => X16.rec (motive := fun _ => MO X16) (fun m a b c d f g h i l n o p r t u w s κ => bxV a 75 s (fun v0 s => bxV b 53 s (fun v1 s => allocC P 51 s (fun v2 s => κ (X16.mk m a b v0 v1 v2 g h i l n o p r t u w) s)))) x s κ
theorem r34x0ok : RgOk P false o34x0 T16 r34x0 := fun _ _ x _ _ => by cases x; kernel_rfl
def o34x1 : Array Oper := regO (pth [1, 0] c34v)
def r34x1 : RG X16 := fun call yl x s κ => X16.rec (motive := fun _ => MO X16) (fun m a b c d f g h i l n o p r t u w s κ => ptrK c 1 s (fun v0 s => ldV v0 false 1 s (fun v1 s => ptrK d 2 s (fun v2 s => stA v2 v1 1 s (fun _ s => κ (X16.mk m a b c d f g h v0 v1 v2 o p r t u w) s))))) x s κ
theorem r34x1ok : RgOk P false o34x1 T16 r34x1 := fun _ _ x _ _ => by cases x; kernel_rfl
def o34x2 : Array Oper := regO (pth [1, 1, 0] c34v)
def r34x2 : RG X16 := fun call yl x s κ => X16.rec (motive := fun _ => MO X16) (fun m a b c d f g h i l n o p r t u w s κ => ldV d true 62 s (fun v0 s => call 26 [v0] s (fun v1 s => exV v1 0 s (fun v2 s => exV v1 1 s (fun v3 s => allocC P 51 s (fun v4 s => stA v4 v2 32 s (fun _ s => κ (X16.mk m a b c d f v4 v3 i l n v1 v0 v1 v2 v3 w) s))))))) x s κ
theorem r34x2ok : RgOk P false o34x2 T16 r34x2 := fun _ _ x _ _ => by cases x; kernel_rfl
def o34x3 : Array Oper := regO (pth [1, 1, 1, 0] c34v)
def r34x3 : RG X16 := fun call yl x s κ => X16.rec (motive := fun _ => MO X16) (fun m a b c d f g h i l n o p r t u w s κ => ldV g true 32 s (fun v0 s => stA f v0 32 s (fun _ s => κ (X16.mk m a b c d f g h i l n o p r t u v0) s))) x s κ
theorem r34x3ok : RgOk P false o34x3 T16 r34x3 := fun _ _ x _ _ => by cases x; kernel_rfl
def S34 : SF X16 := (seqS (regS P t1.fq r34x0) (seqS (regS P t1.fq r34x1) (seqS (regS P t1.fq r34x2) (seqS (regS P t1.fq r34x3) retS))))
theorem S34ok : Sh P t1.fq T16 c34v S34 := by
  have e : c34v = (.seq (.region 0 o34x0 false) (.seq (.region 1 o34x1 false) (.seq (.region 2 o34x2 false) (.seq (.region 3 o34x3 false) .ret)))) := by kernel_rfl
  rw [e]
  exact (sh_seq (sh_reg r34x0ok) (sh_seq (sh_reg r34x1ok) (sh_seq (sh_reg r34x2ok) (sh_seq (sh_reg r34x3ok) sh_ret))))
def A34 : List FV → Option X16 := fun l => match l with
  | [a, b] => some (X16.mk [] a b .e .e .e .e .e .e .e .e .e .e .e .e .e .e)
  | _ => none
def L34 : LQ := shal P T16 S34 [.cell 4 51] 4000 A34
def E34 : LA := evCall P t1.fa 4000 34
theorem G34 : Good P 34 L34 E34 := good_shal all1 (by kernel_rfl) (show FT P 34 = some (c34v, 16, [.cell 4 51]) by kernel_rfl) S34ok (fun l x h => by
    unfold A34 at h
    split at h
    · cases h; exact ⟨by kernel_rfl, by kernel_rfl⟩
    · cases h) 4000
def c51v : Code := bodyOf P 51
def o51x0 : Array Oper := regO (pth [0] c51v)
def r51x0 : RG X9 := fun call yl x s κ => X9.rec (motive := fun _ => MO X9) (fun m a b c d f g h i l s κ => κ (X9.mk m a b c d (.b false) g h i l) s) x s κ
theorem r51x0ok : RgOk P false o51x0 T9 r51x0 := fun _ _ x _ _ => by cases x; kernel_rfl
def o51x1 : Array Oper := regO (pth [1, 0] c51v)
def r51x1 : RG X9 := fun call yl x s κ => X9.rec (motive := fun _ => MO X9) (fun m a b c d f g h i l s κ => call 67 [a, b] s (fun v0 s => binC v0 (.i .i64 0) 3 .geq P s (fun v1 s => κ (X9.mk m a b c d v1 a b v0 v1) s))) x s κ
theorem r51x1ok : RgOk P false o51x1 T9 r51x1 := fun _ _ x _ _ => by cases x; kernel_rfl
def S51 : SF X9 := (seqS (regS P t1.fq r51x0) (seqS (regS P t1.fq r51x1) retS))
theorem S51ok : Sh P t1.fq T9 c51v S51 := by
  have e : c51v = (.seq (.region 0 o51x0 false) (.seq (.region 1 o51x1 false) .ret)) := by kernel_rfl
  rw [e]
  exact (sh_seq (sh_reg r51x0ok) (sh_seq (sh_reg r51x1ok) sh_ret))
def A51 : List FV → Option X9 := fun l => match l with
  | [a, b] => some (X9.mk [] a b .e .e .e .e .e .e .e)
  | _ => none
def L51 : LQ := shal P T9 S51 [.tmp 4] 4000 A51
def E51 : LA := evCall P t1.fa 4000 51
theorem G51 : Good P 51 L51 E51 := good_shal all1 (by kernel_rfl) (show FT P 51 = some (c51v, 9, [.tmp 4]) by kernel_rfl) S51ok (fun l x h => by
    unfold A51 at h
    split at h
    · cases h; exact ⟨by kernel_rfl, by kernel_rfl⟩
    · cases h) 4000
inductive X62 where
  | mk (m : List Nat) (a b c d f g h i l n o p r t u w y z A B C D E F G H I J K L M N O Q R S T U W Y Z a1 b1 c1 d1 f1 g1 h1 i1 l1 n1 o1 p1 r1 t1 u1 w1 y1 z1 A1 B1 C1 : FV)
def T62 (x : X62) : FF := X62.rec (motive := fun _ => FF) (fun m a b c d f g h i l n o p r t u w y z A B C D E F G H I J K L M N O Q R S T U W Y Z a1 b1 c1 d1 f1 g1 h1 i1 l1 n1 o1 p1 r1 t1 u1 w1 y1 z1 A1 B1 C1 => ⟨(.n a (.n b (.n g (.n D .e .e .e .e) (.n U .e .e .e .e) (.n r1 .e .e .e .e) .e) (.n n (.n H .e .e .e .e) (.n a1 .e .e .e .e) (.n y1 .e .e .e .e) .e) (.n t (.n L .e .e .e .e) (.n f1 .e .e .e .e) (.n C1 .e .e .e .e) .e) (.n z (.n Q .e .e .e .e) (.n l1 .e .e .e .e) .e .e)) (.n c (.n h (.n E .e .e .e .e) (.n W .e .e .e .e) (.n t1 .e .e .e .e) .e) (.n o (.n I .e .e .e .e) (.n b1 .e .e .e .e) (.n z1 .e .e .e .e) .e) (.n u (.n M .e .e .e .e) (.n g1 .e .e .e .e) .e .e) (.n A (.n R .e .e .e .e) (.n n1 .e .e .e .e) .e .e)) (.n d (.n i (.n F .e .e .e .e) (.n Y .e .e .e .e) (.n u1 .e .e .e .e) .e) (.n p (.n J .e .e .e .e) (.n c1 .e .e .e .e) (.n A1 .e .e .e .e) .e) (.n w (.n N .e .e .e .e) (.n h1 .e .e .e .e) .e .e) (.n B (.n S .e .e .e .e) (.n o1 .e .e .e .e) .e .e)) (.n f (.n l (.n G .e .e .e .e) (.n Z .e .e .e .e) (.n w1 .e .e .e .e) .e) (.n r (.n K .e .e .e .e) (.n d1 .e .e .e .e) (.n B1 .e .e .e .e) .e) (.n y (.n O .e .e .e .e) (.n i1 .e .e .e .e) .e .e) (.n C (.n T .e .e .e .e) (.n p1 .e .e .e .e) .e .e))), 62, m⟩) x
def c22v : Code := bodyOf P 22
def o22x0 : Array Oper := regO (pth [0] c22v)
def r22x0 : RG X62 := fun call yl x s κ => X62.rec (motive := fun _ => MO X62) (fun m a b c d f g h i l n o p r t u w y z A B C D E F G H I J K L M N O Q R S T U W Y Z a1 b1 c1 d1 f1 g1 h1 i1 l1 n1 o1 p1 r1 t1 u1 w1 y1 z1 A1 B1 C1 s κ => bxV a 75 s (fun v0 s => κ (X62.mk m a v0 (.b false) d f g h i l n o p r t u w y z A B C D E F G H I J K L M N O Q R S T U W Y Z a1 b1 c1 d1 f1 g1 h1 i1 l1 n1 o1 p1 r1 t1 u1 w1 y1 z1 A1 B1 C1) s)) x s κ
theorem r22x0ok : RgOk P false o22x0 T62 r22x0 := fun _ _ x _ _ => by cases x; kernel_rfl
def o22x1 : Array Oper := regO (pth [1, 0] c22v)
def r22x1 : RG X62 := fun call yl x s κ => X62.rec (motive := fun _ => MO X62) (fun m a b c d f g h i l n o p r t u w y z A B C D E F G H I J K L M N O Q R S T U W Y Z a1 b1 c1 d1 f1 g1 h1 i1 l1 n1 o1 p1 r1 t1 u1 w1 y1 z1 A1 B1 C1 s κ => κ (X62.mk m a b c (.b true) f g h i l n o p r t u w y z A B C D E F G H I J K L M N O Q R S T U W Y Z a1 b1 c1 d1 f1 g1 h1 i1 l1 n1 o1 p1 r1 t1 u1 w1 y1 z1 A1 B1 C1) s) x s κ
theorem r22x1ok : RgOk P false o22x1 T62 r22x1 := fun _ _ x _ _ => by cases x; kernel_rfl
def o22x2 : Array Oper := regO (pth [1, 1, 0, 0] c22v)
def r22x2 : RG X62 := fun call yl x s κ => X62.rec (motive := fun _ => MO X62) (fun m a b c d f g h i l n o p r t u w y z A B C D E F G H I J K L M N O Q R S T U W Y Z a1 b1 c1 d1 f1 g1 h1 i1 l1 n1 o1 p1 r1 t1 u1 w1 y1 z1 A1 B1 C1 s κ => ptrK b 3 s (fun v0 s => ldV v0 false 1 s (fun v1 s => lenC v1 P 23 s (fun v2 s => κ (X62.mk m a b c d f g v0 v1 v2 (.i .i64 0) o p r t u w y z A B C D E F G H I J K L M N O Q R S T U W Y Z a1 b1 c1 d1 f1 g1 h1 i1 l1 n1 o1 p1 r1 t1 u1 w1 y1 z1 A1 B1 C1) s)))) x s κ
theorem r22x2ok : RgOk P false o22x2 T62 r22x2 := fun _ _ x _ _ => by cases x; kernel_rfl
def o22x3 : Array Oper := regO (pth [1, 1, 0, 1, 0, 0, 0] c22v)
def r22x3 : RG X62 := fun call yl x s κ => X62.rec (motive := fun _ => MO X62) (fun m a b c d f g h i l n o p r t u w y z A B C D E F G H I J K L M N O Q R S T U W Y Z a1 b1 c1 d1 f1 g1 h1 i1 l1 n1 o1 p1 r1 t1 u1 w1 y1 z1 A1 B1 C1 s κ => binC n l 3 .lss P s (fun v0 s => κ (X62.mk m a b c d f g h i l n v0 p r t u w y z A B C D E F G H I J K L M N O Q R S T U W Y Z a1 b1 c1 d1 f1 g1 h1 i1 l1 n1 o1 p1 r1 t1 u1 w1 y1 z1 A1 B1 C1) s)) x s κ
theorem r22x3ok : RgOk P false o22x3 T62 r22x3 := fun _ _ x _ _ => by cases x; kernel_rfl
def o22x4 : Array Oper := regO (pth [1, 1, 0, 1, 0, 0, 1, 1, 0, 0, 0] c22v)
def r22x4 : RG X62 := fun call yl x s κ => X62.rec (motive := fun _ => MO X62) (fun m a b c d f g h i l n o p r t u w y z A B C D E F G H I J K L M N O Q R S T U W Y Z a1 b1 c1 d1 f1 g1 h1 i1 l1 n1 o1 p1 r1 t1 u1 w1 y1 z1 A1 B1 C1 s κ => natK n fun j => iaS i j 1 s (fun v0 s => ldV v0 false 1 s (fun v1 s => κ (X62.mk m a b c d n v1 h i l n o n v0 v1 u w y z A B C D E F G H I J K L M N O Q R S T U W Y Z a1 b1 c1 d1 f1 g1 h1 i1 l1 n1 o1 p1 r1 t1 u1 w1 y1 z1 A1 B1 C1) s))) x s κ
theorem r22x4ok : RgOk P false o22x4 T62 r22x4 := fun _ _ x _ _ => by cases x; kernel_rfl
def o22x5 : Array Oper := regO (pth [1, 1, 0, 1, 0, 0, 1, 1, 0, 0, 1] c22v)
def r22x5 : RG X62 := fun call yl x s κ => X62.rec (motive := fun _ => MO X62) (fun m a b c d f g h i l n o p r t u w y z A B C D E F G H I J K L M N O Q R S T U W Y Z a1 b1 c1 d1 f1 g1 h1 i1 l1 n1 o1 p1 r1 t1 u1 w1 y1 z1 A1 B1 C1 s κ => bnk (fun κ1 => wantC d true (κ1 g s) (κ1 .e s)) (fun v0 s => bnk (fun κ1 => wantC d true (call 46 [v0, (.i .i64 0), (.i .i64 15)] s (κ1)) (κ1 .e s)) (fun v1 s => bnk (fun κ0 => condB d (κ0 v1 s) (κ0 (.b false) s)) (fun v2 s => bnk (fun κ1 => wantC v2 true (κ1 g s) (κ1 .e s)) (fun v3 s => bnk (fun κ1 => wantC v2 true (ptrK b 1 s (κ1)) (κ1 .e s)) (fun v4 s => bnk (fun κ1 => wantC v2 true (ldV v4 false 1 s (κ1)) (κ1 .e s)) (fun v5 s => bnk (fun κ1 => wantC v2 true (binC v3 v5 3 .neq P s (κ1)) (κ1 .e s)) (fun v6 s => bnk (fun κ0 => condB v2 (κ0 v6 s) (κ0 (.b false) s)) (fun v7 s => bnk (fun κ1 => wantC v7 true (κ1 f s) (κ1 .e s)) (fun v8 s => bnk (fun κ1 => wantC v7 true (binC v8 (.i .i64 0) 3 .eql P s (κ1)) (κ1 .e s)) (fun v9 s => bnk (fun κ1 => wantC v7 true (κ1 v9 s) (κ1 .e s)) (fun v10 s => bnk (fun κ1 => wantC v10 false (ptrK b 3 s (κ1)) (κ1 .e s)) (fun v11 s => bnk (fun κ1 => wantC v10 false (ldV v11 false 1 s (κ1)) (κ1 .e s)) (fun v12 s => bnk (fun κ1 => wantC v10 false (κ1 f s) (κ1 .e s)) (fun v13 s => bnk (fun κ1 => wantC v10 false (binC v13 (.i .i64 1) 3 .sub P s (κ1)) (κ1 .e s)) (fun v14 s => bnk (fun κ1 => wantC v10 false (natK v14 fun j => iaS v12 j 1 s (κ1)) (κ1 .e s)) (fun v15 s => bnk (fun κ1 => wantC v10 false (ldV v15 false 1 s (κ1)) (κ1 .e s)) (fun v16 s => bnk (fun κ1 => wantC v10 false (κ1 g s) (κ1 .e s)) (fun v17 s => bnk (fun κ1 => wantC v10 false (binC v16 v17 3 .lss P s (κ1)) (κ1 .e s)) (fun v18 s => bnk (fun κ1 => wantC v7 true (bnk (fun κ0 => condB v10 (κ0 (.b true) s) (κ0 v18 s)) (κ1)) (κ1 .e s)) (fun v19 s => bnk (fun κ0 => condB v7 (κ0 v19 s) (κ0 (.b false) s)) (fun v20 s => κ (X62.mk m a b c v20 f g h i l n o p r t d d v0 v1 v2 v2 v3 v4 v5 v6 v7 v7 v8 v9 v10 v11 v12 v13 v14 v15 v16 v17 v18 v19 v20 Y Z a1 b1 c1 d1 f1 g1 h1 i1 l1 n1 o1 p1 r1 t1 u1 w1 y1 z1 A1 B1 C1) s)))))))))))))))))))))) x s κ
theorem r22x5ok : RgOk P false o22x5 T62 r22x5 := fun _ _ x _ _ => by cases x; kernel_rfl
def o22x6 : Array Oper := regO (pth [1, 1, 0, 1, 0, 0, 1, 1, 1] c22v)
def r22x6 : RG X62 := fun call yl x s κ => X62.rec (motive := fun _ => MO X62) (fun m a b c d f g h i l n o p r t u w y z A B C D E F G H I J K L M N O Q R S T U W Y Z a1 b1 c1 d1 f1 g1 h1 i1 l1 n1 o1 p1 r1 t1 u1 w1 y1 z1 A1 B1 C1 s κ => binC n (.i .i64 1) 3 .add P s (fun v0 s => κ (X62.mk m a b c d f g h i l v0 o p r t u w y z A B C D E F G H I J K L M N O Q R S T U W v0 Z a1 b1 c1 d1 f1 g1 h1 i1 l1 n1 o1 p1 r1 t1 u1 w1 y1 z1 A1 B1 C1) s)) x s κ
theorem r22x6ok : RgOk P false o22x6 T62 r22x6 := fun _ _ x _ _ => by cases x; kernel_rfl
def o22x7 : Array Oper := regO (pth [1, 1, 1, 0] c22v)
def r22x7 : RG X62 := fun call yl x s κ => X62.rec (motive := fun _ => MO X62) (fun m a b c d f g h i l n o p r t u w y z A B C D E F G H I J K L M N O Q R S T U W Y Z a1 b1 c1 d1 f1 g1 h1 i1 l1 n1 o1 p1 r1 t1 u1 w1 y1 z1 A1 B1 C1 s κ => bnk (fun κ1 => wantC d true (ptrK b 0 s (κ1)) (κ1 .e s)) (fun v0 s => bnk (fun κ1 => wantC d true (ldV v0 false 1 s (κ1)) (κ1 .e s)) (fun v1 s => bnk (fun κ1 => wantC d true (call 46 [v1, (.i .i64 1), (.i .i64 1099511627776)] s (κ1)) (κ1 .e s)) (fun v2 s => bnk (fun κ0 => condB d (κ0 v2 s) (κ0 (.b false) s)) (fun v3 s => bnk (fun κ1 => wantC v3 true (ptrK b 1 s (κ1)) (κ1 .e s)) (fun v4 s => bnk (fun κ1 => wantC v3 true (ldV v4 false 1 s (κ1)) (κ1 .e s)) (fun v5 s => bnk (fun κ1 => wantC v3 true (call 46 [v5, (.i .i64 0), (.i .i64 15)] s (κ1)) (κ1 .e s)) (fun v6 s => bnk (fun κ0 => condB v3 (κ0 v6 s) (κ0 (.b false) s)) (fun v7 s => bnk (fun κ1 => wantC v7 true (ptrK b 2 s (κ1)) (κ1 .e s)) (fun v8 s => bnk (fun κ1 => wantC v7 true (ldV v8 false 1 s (κ1)) (κ1 .e s)) (fun v9 s => bnk (fun κ1 => wantC v7 true (call 46 [v9, (.i .i64 0), (.i .i64 2251799813685248)] s (κ1)) (κ1 .e s)) (fun v10 s => bnk (fun κ0 => condB v7 (κ0 v10 s) (κ0 (.b false) s)) (fun v11 s => bnk (fun κ1 => wantC v11 true (ptrK b 3 s (κ1)) (κ1 .e s)) (fun v12 s => bnk (fun κ1 => wantC v11 true (ldV v12 false 1 s (κ1)) (κ1 .e s)) (fun v13 s => bnk (fun κ1 => wantC v11 true (lenC v13 P 23 s (κ1)) (κ1 .e s)) (fun v14 s => bnk (fun κ1 => wantC v11 true (call 46 [v14, (.i .i64 1), (.i .i64 15)] s (κ1)) (κ1 .e s)) (fun v15 s => bnk (fun κ0 => condB v11 (κ0 v15 s) (κ0 (.b false) s)) (fun v16 s => κ (X62.mk m a b v16 d f g h i l n o p r t u w y z A B C D E F G H I J K L M N O Q R S T U W Y d d v0 v1 v2 v3 v3 v4 v5 v6 v7 v7 v8 v9 v10 v11 v11 v12 v13 v14 v15 v16) s)))))))))))))))))) x s κ
theorem r22x7ok : RgOk P false o22x7 T62 r22x7 := fun _ _ x _ _ => by cases x; kernel_rfl
def S22 : SF X62 := (seqS (regS P t1.fq r22x0) (seqS (regS P t1.fq r22x1) (seqS (seqS (regS P t1.fq r22x2) (blkS 0 (loopS (seqS (regS P t1.fq r22x3) (seqS (condS (fun x => X62.rec (motive := fun _ => FV) (fun _ _ _ _ _ _ _ _ _ _ _ z _ _ _ _ _ _ _ _ _ _ _ _ _ _ _ _ _ _ _ _ _ _ _ _ _ _ _ _ _ _ _ _ _ _ _ _ _ _ _ _ _ _ _ _ _ _ _ _ _ _ _ => z) x) skipS (exitS 0)) (seqS (blkS 1 (seqS (regS P t1.fq r22x4) (regS P t1.fq r22x5))) (regS P t1.fq r22x6))))))) (seqS (regS P t1.fq r22x7) retS))))
theorem S22ok : Sh P t1.fq T62 c22v S22 := by
  have e : c22v = (.seq (.region 0 o22x0 false) (.seq (.region 1 o22x1 false) (.seq (.seq (.region 2 o22x2 false) (.block 0 (.loop (.seq (.region 3 o22x3 false) (.seq (.cond (.tmp 10) .skip (.exit 0)) (.seq (.block 1 (.seq (.region 4 o22x4 false) (.region 5 o22x5 false))) (.region 6 o22x6 false))))))) (.seq (.region 7 o22x7 false) .ret)))) := by kernel_rfl
  rw [e]
  exact (sh_seq (sh_reg r22x0ok) (sh_seq (sh_reg r22x1ok) (sh_seq (sh_seq (sh_reg r22x2ok) (sh_blk 0 (sh_loop (sh_seq (sh_reg r22x3ok) (sh_seq (sh_cond (fun x => by cases x; rfl) sh_skip (sh_exit 0)) (sh_seq (sh_blk 1 (sh_seq (sh_reg r22x4ok) (sh_reg r22x5ok))) (sh_reg r22x6ok))))))) (sh_seq (sh_reg r22x7ok) sh_ret))))
def A22 : List FV → Option X62 := fun l => match l with
  | [a] => some (X62.mk [] a .e .e .e .e .e .e .e .e .e .e .e .e .e .e .e .e .e .e .e .e .e .e .e .e .e .e .e .e .e .e .e .e .e .e .e .e .e .e .e .e .e .e .e .e .e .e .e .e .e .e .e .e .e .e .e .e .e .e .e .e .e)
  | _ => none
def L22 : LQ := shal P T62 S22 [.tmp 2] 4000 A22
def E22 : LA := evCall P t1.fa 4000 22
theorem G22 : Good P 22 L22 E22 := good_shal all1 (by kernel_rfl) (show FT P 22 = some (c22v, 62, [.tmp 2]) by kernel_rfl) S22ok (fun l x h => by
    unfold A22 at h
    split at h
    · cases h; exact ⟨by kernel_rfl, by kernel_rfl⟩
    · cases h) 4000
inductive X37 where
  | mk (m : List Nat) (a b c d f g h i l n o p r t u w y z A B C D E F G H I J K L M N O Q R S T : FV)
def T37 (x : X37) : FF := X37.rec (motive := fun _ => FF) (fun m a b c d f g h i l n o p r t u w y z A B C D E F G H I J K L M N O Q R S T => ⟨(.n a (.n b (.n g (.n D .e .e .e .e) .e .e .e) (.n n (.n H .e .e .e .e) .e .e .e) (.n t (.n L .e .e .e .e) .e .e .e) (.n z (.n Q .e .e .e .e) .e .e .e)) (.n c (.n h (.n E .e .e .e .e) .e .e .e) (.n o (.n I .e .e .e .e) .e .e .e) (.n u (.n M .e .e .e .e) .e .e .e) (.n A (.n R .e .e .e .e) .e .e .e)) (.n d (.n i (.n F .e .e .e .e) .e .e .e) (.n p (.n J .e .e .e .e) .e .e .e) (.n w (.n N .e .e .e .e) .e .e .e) (.n B (.n S .e .e .e .e) .e .e .e)) (.n f (.n l (.n G .e .e .e .e) .e .e .e) (.n r (.n K .e .e .e .e) .e .e .e) (.n y (.n O .e .e .e .e) .e .e .e) (.n C (.n T .e .e .e .e) .e .e .e))), 37, m⟩) x
def c64v : Code := bodyOf P 64
def o64x0 : Array Oper := regO (pth [0] c64v)
def r64x0 : RG X37 := fun call yl x s κ => X37.rec (motive := fun _ => MO X37) (fun m a b c d f g h i l n o p r t u w y z A B C D E F G H I J K L M N O Q R S T s κ => bxV a 75 s (fun v0 s => bxV b 53 s (fun v1 s => κ (X37.mk m a b v0 v1 (.b false) g h i l n o p r t u w y z A B C D E F G H I J K L M N O Q R S T) s))) x s κ
theorem r64x0ok : RgOk P false o64x0 T37 r64x0 := fun _ _ x _ _ => by cases x; kernel_rfl
def o64x1 : Array Oper := regO (pth [1, 0] c64v)
def r64x1 : RG X37 := fun call yl x s κ => X37.rec (motive := fun _ => MO X37) (fun m a b c d f g h i l n o p r t u w y z A B C D E F G H I J K L M N O Q R S T s κ => ptrK d 0 s (fun v0 s => ldV v0 false 1 s (fun v1 s => binC v1 (.i .i64 8) 3 .eql P s (fun v2 s => bnk (fun κ1 => wantC v2 false (ptrK d 0 s (κ1)) (κ1 .e s)) (fun v3 s => bnk (fun κ1 => wantC v2 false (ldV v3 false 1 s (κ1)) (κ1 .e s)) (fun v4 s => bnk (fun κ1 => wantC v2 false (binC v4 (.i .i64 9) 3 .eql P s (κ1)) (κ1 .e s)) (fun v5 s => bnk (fun κ0 => condB v2 (κ0 (.b true) s) (κ0 v5 s)) (fun v6 s => κ (X37.mk m a b c d f v6 v0 v1 v2 v2 v3 v4 v5 v6 u w y z A B C D E F G H I J K L M N O Q R S T) s)))))))) x s κ
theorem r64x1ok : RgOk P false o64x1 T37 r64x1 := fun _ _ x _ _ => by cases x; kernel_rfl
def o64x2 : Array Oper := regO (pth [1, 1, 0] c64v)
def r64x2 : RG X37 := fun call yl x s κ => X37.rec (motive := fun _ => MO X37) (fun m a b c d f g h i l n o p r t u w y z A B C D E F G H I J K L M N O Q R S T s κ => ptrK d 3 s (fun v0 s => ldV v0 false 1 s (fun v1 s => ptrK c 0 s (fun v2 s => ldV v2 false 1 s (fun v3 s => binC v1 v3 3 .eql P s (fun v4 s => bnk (fun κ1 => wantC v4 true (ptrK d 29 s (κ1)) (κ1 .e s)) (fun v5 s => bnk (fun κ1 => wantC v4 true (ldV v5 false 1 s (κ1)) (κ1 .e s)) (fun v6 s => bnk (fun κ1 => wantC v4 true (ptrK c 3 s (κ1)) (κ1 .e s)) (fun v7 s => bnk (fun κ1 => wantC v4 true (ldV v7 false 1 s (κ1)) (κ1 .e s)) (fun v8 s => bnk (fun κ1 => wantC v4 true (call 95 [v6, v8] s (κ1)) (κ1 .e s)) (fun v9 s => bnk (fun κ0 => condB v4 (κ0 v9 s) (κ0 (.b false) s)) (fun v10 s => bnk (fun κ1 => wantC v10 true (κ1 g s) (κ1 .e s)) (fun v11 s => bnk (fun κ1 => wantC v10 true (notC v11 s (κ1)) (κ1 .e s)) (fun v12 s => bnk (fun κ1 => wantC v10 true (κ1 v12 s) (κ1 .e s)) (fun v13 s => bnk (fun κ1 => wantC v13 false (ptrK d 24 s (κ1)) (κ1 .e s)) (fun v14 s => bnk (fun κ1 => wantC v13 false (ldV v14 false 1 s (κ1)) (κ1 .e s)) (fun v15 s => bnk (fun κ1 => wantC v13 false (ptrK c 2 s (κ1)) (κ1 .e s)) (fun v16 s => bnk (fun κ1 => wantC v13 false (ldV v16 false 1 s (κ1)) (κ1 .e s)) (fun v17 s => bnk (fun κ1 => wantC v13 false (binC v15 v17 3 .eql P s (κ1)) (κ1 .e s)) (fun v18 s => bnk (fun κ1 => wantC v10 true (bnk (fun κ0 => condB v13 (κ0 (.b true) s) (κ0 v18 s)) (κ1)) (κ1 .e s)) (fun v19 s => bnk (fun κ0 => condB v10 (κ0 v19 s) (κ0 (.b false) s)) (fun v20 s => κ (X37.mk m a b c d v20 g h i l n o p r t v0 v1 v2 v3 v4 v4 v5 v6 v7 v8 v9 v10 v10 v11 v12 v13 v14 v15 v16 v17 v18 v19 v20) s)))))))))))))))))))))) x s κ
theorem r64x2ok : RgOk P false o64x2 T37 r64x2 := fun _ _ x _ _ => by cases x; kernel_rfl
def S64 : SF X37 := (seqS (regS P t1.fq r64x0) (seqS (regS P t1.fq r64x1) (seqS (regS P t1.fq r64x2) retS)))
theorem S64ok : Sh P t1.fq T37 c64v S64 := by
  have e : c64v = (.seq (.region 0 o64x0 false) (.seq (.region 1 o64x1 false) (.seq (.region 2 o64x2 false) .ret))) := by kernel_rfl
  rw [e]
  exact (sh_seq (sh_reg r64x0ok) (sh_seq (sh_reg r64x1ok) (sh_seq (sh_reg r64x2ok) sh_ret)))
def A64 : List FV → Option X37 := fun l => match l with
  | [a, b] => some (X37.mk [] a b .e .e .e .e .e .e .e .e .e .e .e .e .e .e .e .e .e .e .e .e .e .e .e .e .e .e .e .e .e .e .e .e .e .e .e)
  | _ => none
def L64 : LQ := shal P T37 S64 [.tmp 4] 4000 A64
def E64 : LA := evCall P t1.fa 4000 64
theorem G64 : Good P 64 L64 E64 := good_shal all1 (by kernel_rfl) (show FT P 64 = some (c64v, 37, [.tmp 4]) by kernel_rfl) S64ok (fun l x h => by
    unfold A64 at h
    split at h
    · cases h; exact ⟨by kernel_rfl, by kernel_rfl⟩
    · cases h) 4000
inductive X25 where
  | mk (m : List Nat) (a b c d f g h i l n o p r t u w y z A B C D E F G : FV)
def T25 (x : X25) : FF := X25.rec (motive := fun _ => FF) (fun m a b c d f g h i l n o p r t u w y z A B C D E F G => ⟨(.n a (.n b (.n g (.n D .e .e .e .e) .e .e .e) (.n n .e .e .e .e) (.n t .e .e .e .e) (.n z .e .e .e .e)) (.n c (.n h (.n E .e .e .e .e) .e .e .e) (.n o .e .e .e .e) (.n u .e .e .e .e) (.n A .e .e .e .e)) (.n d (.n i (.n F .e .e .e .e) .e .e .e) (.n p .e .e .e .e) (.n w .e .e .e .e) (.n B .e .e .e .e)) (.n f (.n l (.n G .e .e .e .e) .e .e .e) (.n r .e .e .e .e) (.n y .e .e .e .e) (.n C .e .e .e .e))), 25, m⟩) x
def c57v : Code := bodyOf P 57
def o57x0 : Array Oper := regO (pth [0] c57v)
def r57x0 : RG X25 := fun call yl x s κ => X25.rec (motive := fun _ => MO X25) (fun m a b c d f g h i l n o p r t u w y z A B C D E F G s κ => ldV b false 1 s (fun v0 s => lenC v0 P 23 s (fun v1 s => κ (X25.mk m a b c d f g h v0 v1 (.i .i64 0) o p r t u w y z A B C D E F G) s))) x s κ
theorem r57x0ok : RgOk P false o57x0 T25 r57x0 := fun _ _ x _ _ => by cases x; kernel_rfl
def o57x1 : Array Oper := regO (pth [1, 0, 0, 0] c57v)
def r57x1 : RG X25 := fun call yl x s κ => X25.rec (motive := fun _ => MO X25) (fun m a b c d f g h i l n o p r t u w y z A B C D E F G s κ => binC n l 3 .lss P s (fun v0 s => κ (X25.mk m a b c d f g h i l n v0 p r t u w y z A B C D E F G) s)) x s κ
theorem r57x1ok : RgOk P false o57x1 T25 r57x1 := fun _ _ x _ _ => by cases x; kernel_rfl
def o57x2 : Array Oper := regO (pth [1, 0, 0, 1, 1, 0, 0, 0] c57v)
def r57x2 : RG X25 := fun call yl x s κ => X25.rec (motive := fun _ => MO X25) (fun m a b c d f g h i l n o p r t u w y z A B C D E F G s κ => natK n fun j => iaS i j 1 s (fun v0 s => ldV v0 false 1 s (fun v1 s => κ (X25.mk m a b c d f v1 h i l n o v0 v1 t u w y z A B C D E F G) s))) x s κ
theorem r57x2ok : RgOk P false o57x2 T25 r57x2 := fun _ _ x _ _ => by cases x; kernel_rfl
def o57x3 : Array Oper := regO (pth [1, 0, 0, 1, 1, 0, 0, 1, 0] c57v)
def r57x3 : RG X25 := fun call yl x s κ => X25.rec (motive := fun _ => MO X25) (fun m a b c d f g h i l n o p r t u w y z A B C D E F G s κ => ldV c true 62 s (fun v0 s => allocC P 53 s (fun v1 s => stA v1 v0 62 s (fun _ s => κ (X25.mk m a b c d f g v1 i l n o p r v0 u w y z A B C D E F G) s)))) x s κ
theorem r57x3ok : RgOk P false o57x3 T25 r57x3 := fun _ _ x _ _ => by cases x; kernel_rfl
def o57x4 : Array Oper := regO (pth [1, 0, 0, 1, 1, 0, 0, 1, 1, 0] c57v)
def r57x4 : RG X25 := fun call yl x s κ => X25.rec (motive := fun _ => MO X25) (fun m a b c d f g h i l n o p r t u w y z A B C D E F G s κ => ptrK c 29 s (fun v0 s => ldV v0 false 1 s (fun v1 s => call 21 [v1] s (fun v2 s => ptrK h 2 s (fun v3 s => stA v3 g 1 s (fun _ s => ptrK h 29 s (fun v4 s => stA v4 v2 1 s (fun _ s => κ (X25.mk m a b c d f g h i l n o p r t g v0 v1 v2 v3 v4 C D E F G) s)))))))) x s κ
theorem r57x4ok : RgOk P false o57x4 T25 r57x4 := fun _ _ x _ _ => by cases x; kernel_rfl
def o57x5 : Array Oper := regO (pth [1, 0, 0, 1, 1, 0, 0, 1, 1, 1, 0] c57v)
def r57x5 : RG X25 := fun call yl x s κ => X25.rec (motive := fun _ => MO X25) (fun m a b c d f g h i l n o p r t u w y z A B C D E F G s κ => ldV h true 62 s (fun v0 s => callV a [v0] call yl s (fun v1 s => notC v1 s (fun v2 s => κ (X25.mk m a b c d f g h i l n o p r t u w y z A B a v0 v1 v2 G) s)))) x s κ
theorem r57x5ok : RgOk P false o57x5 T25 r57x5 := fun _ _ x _ _ => by cases x; kernel_rfl
def o57x6 : Array Oper := regO (pth [1, 0, 0, 1, 1, 1] c57v)
def r57x6 : RG X25 := fun call yl x s κ => X25.rec (motive := fun _ => MO X25) (fun m a b c d f g h i l n o p r t u w y z A B C D E F G s κ => binC n (.i .i64 1) 3 .add P s (fun v0 s => κ (X25.mk m a b c d f g h i l v0 o p r t u w y z A B C D E F v0) s)) x s κ
theorem r57x6ok : RgOk P false o57x6 T25 r57x6 := fun _ _ x _ _ => by cases x; kernel_rfl
def S57 : SF X25 := (seqS (regS P t1.fq r57x0) (blkS 0 (loopS (seqS (regS P t1.fq r57x1) (seqS (condS (fun x => X25.rec (motive := fun _ => FV) (fun _ _ _ _ _ _ _ _ _ _ _ z _ _ _ _ _ _ _ _ _ _ _ _ _ _ => z) x) skipS (exitS 0)) (seqS (blkS 1 (seqS (regS P t1.fq r57x2) (seqS (regS P t1.fq r57x3) (seqS (regS P t1.fq r57x4) (seqS (regS P t1.fq r57x5) (condS (fun x => X25.rec (motive := fun _ => FV) (fun _ _ _ _ _ _ _ _ _ _ _ _ _ _ _ _ _ _ _ _ _ _ _ _ z _ => z) x) retS skipS)))))) (regS P t1.fq r57x6)))))))
theorem S57ok : Sh P t1.fq T25 c57v S57 := by
  have e : c57v = (.seq (.region 0 o57x0 false) (.block 0 (.loop (.seq (.region 1 o57x1 false) (.seq (.cond (.tmp 10) .skip (.exit 0)) (.seq (.block 1 (.seq (.region 2 o57x2 false) (.seq (.region 3 o57x3 false) (.seq (.region 4 o57x4 false) (.seq (.region 5 o57x5 false) (.cond (.tmp 23) .ret .skip)))))) (.region 6 o57x6 false))))))) := by kernel_rfl
  rw [e]
  exact (sh_seq (sh_reg r57x0ok) (sh_blk 0 (sh_loop (sh_seq (sh_reg r57x1ok) (sh_seq (sh_cond (fun x => by cases x; rfl) sh_skip (sh_exit 0)) (sh_seq (sh_blk 1 (sh_seq (sh_reg r57x2ok) (sh_seq (sh_reg r57x3ok) (sh_seq (sh_reg r57x4ok) (sh_seq (sh_reg r57x5ok) (sh_cond (fun x => by cases x; rfl) sh_ret sh_skip)))))) (sh_reg r57x6ok)))))))
def A57 : List FV → Option X25 := fun l => match l with
  | [a, b, c] => some (X25.mk [] a b c .e .e .e .e .e .e .e .e .e .e .e .e .e .e .e .e .e .e .e .e .e .e)
  | _ => none
def L57 : LQ := shal P T25 S57 [] 4000 A57
def E57 : LA := evCall P t1.fa 4000 57
theorem G57 : Good P 57 L57 E57 := good_shal all1 (by kernel_rfl) (show FT P 57 = some (c57v, 25, []) by kernel_rfl) S57ok (fun l x h => by
    unfold A57 at h
    split at h
    · cases h; exact ⟨by kernel_rfl, by kernel_rfl⟩
    · cases h) 4000
def t2 : LT := (.n 63 L63 E63 (.n 33 L33 E33 (.n 23 L23 E23 (.n 21 L21 E21 (.n 13 L13 E13 (.n 7 L7 E7 .e .e) .e) (.n 22 L22 E22 .e .e)) (.n 27 L27 E27 (.n 26 L26 E26 .e .e) (.n 32 L32 E32 .e .e))) (.n 57 L57 E57 (.n 51 L51 E51 (.n 46 L46 E46 (.n 34 L34 E34 .e .e) .e) (.n 56 L56 E56 .e .e)) (.n 59 L59 E59 (.n 58 L58 E58 .e .e) (.n 60 L60 E60 .e .e)))) (.n 92 L92 E92 (.n 69 L69 E69 (.n 67 L67 E67 (.n 66 L66 E66 (.n 64 L64 E64 .e .e) .e) (.n 68 L68 E68 .e .e)) (.n 72 L72 E72 (.n 71 L71 E71 .e .e) (.n 83 L83 E83 .e .e))) (.n 96 L96 E96 (.n 94 L94 E94 (.n 93 L93 E93 .e .e) (.n 95 L95 E95 .e .e)) (.n 116 L116 E116 (.n 97 L97 E97 .e .e) (.n 125 L125 E125 .e .e)))))
theorem all2 : t2.all (Good P) := ⟨G63, ⟨G33, ⟨G23, ⟨G21, ⟨G13, ⟨G7, trivial, trivial⟩, trivial⟩, ⟨G22, trivial, trivial⟩⟩, ⟨G27, ⟨G26, trivial, trivial⟩, ⟨G32, trivial, trivial⟩⟩⟩, ⟨G57, ⟨G51, ⟨G46, ⟨G34, trivial, trivial⟩, trivial⟩, ⟨G56, trivial, trivial⟩⟩, ⟨G59, ⟨G58, trivial, trivial⟩, ⟨G60, trivial, trivial⟩⟩⟩⟩, ⟨G92, ⟨G69, ⟨G67, ⟨G66, ⟨G64, trivial, trivial⟩, trivial⟩, ⟨G68, trivial, trivial⟩⟩, ⟨G72, ⟨G71, trivial, trivial⟩, ⟨G83, trivial, trivial⟩⟩⟩, ⟨G96, ⟨G94, ⟨G93, trivial, trivial⟩, ⟨G95, trivial, trivial⟩⟩, ⟨G116, ⟨G97, trivial, trivial⟩, ⟨G125, trivial, trivial⟩⟩⟩⟩⟩
end
end Q
end V
end Go.CE
