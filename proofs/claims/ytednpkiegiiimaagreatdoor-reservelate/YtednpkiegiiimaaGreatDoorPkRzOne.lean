/-
  The first tree of laws: the digests', the tables'.
-/
import Derived.Test.YtednpkiegiiimaaGreatDoorPkTab
set_option linter.unusedSectionVars false
set_option linter.constructorNameAsVariable false
set_option linter.unusedVariables false
set_option linter.unusedSimpArgs false
namespace Go.CE
namespace V
variable [Sym] [SymOk]
noncomputable def P : Program := Go.Proofs.Tryz.prog
noncomputable def L40 : LQ := vnQ
noncomputable def E40 : LA := vnE
theorem G40 : Good P 40 L40 E40 := vn_good
noncomputable def L42 : LQ := pairQ usesA
noncomputable def E42 : LA := pairE usesA
theorem G42 : Good P 42 L42 E42 := uses_good
noncomputable def L56 : LQ := sumQ sumTab
noncomputable def E56 : LA := sumE sumTab
theorem G56 : Good P 56 L56 E56 := rsum_good
noncomputable def L60 : LQ := sumQ sumTab
noncomputable def E60 : LA := sumE sumTab
theorem G60 : Good P 60 L60 E60 := dsum_good
noncomputable def L73 : LQ := pairQ limitsA
noncomputable def E73 : LA := pairE limitsA
theorem G73 : Good P 73 L73 E73 := limits_good
noncomputable def L96 : LQ := keyQ2 keyTab
noncomputable def E96 : LA := keyE2 keyTab
theorem G96 : Good P 96 L96 E96 := dkey_good
noncomputable def L115 : LQ := addQ
noncomputable def E115 : LA := addE
theorem G115 : Good P 115 L115 E115 := add_good
noncomputable def L125 : LQ := numQ
noncomputable def E125 : LA := numE
theorem G125 : Good P 125 L125 E125 := num_good
noncomputable def t0 : LT := (.n 60 L60 E60 (.n 42 L42 E42 (.n 40 L40 E40 (.e) (.e)) (.n 56 L56 E56 (.e) (.e))) (.n 96 L96 E96 (.n 73 L73 E73 (.e) (.e)) (.n 115 L115 E115 (.e) (.n 125 L125 E125 (.e) (.e)))))
theorem all0 : t0.all (Good P) := ⟨G60, ⟨G42, ⟨G40, trivial, trivial⟩, ⟨G56, trivial, trivial⟩⟩, ⟨G96, ⟨G73, trivial, trivial⟩, ⟨G115, trivial, ⟨G125, trivial, trivial⟩⟩⟩⟩
end V
end Go.CE
namespace Go.CE
namespace V
set_option maxRecDepth 100000
noncomputable section
variable [Sym] [SymOk]
inductive X8 where
  | mk (m : List Nat) (a b c d f g h i : FV)
def T8 (x : X8) : FF := X8.rec (motive := fun _ => FF) (fun m a b c d f g h i => ⟨(.n a (.n b (.n g .e .e .e .e) .e .e .e) (.n c (.n h .e .e .e .e) .e .e .e) (.n d (.n i .e .e .e .e) .e .e .e) (.n f .e .e .e .e)), 8, m⟩) x
def c21v : Code := bodyOf P 21
def o21x0 : Array Oper := regO (pth [0] c21v)
def r21x0 : RG X8 := fun call yl x s κ => X8.rec (motive := fun _ => MO X8) (fun m a b c d f g h i s κ => κ (X8.mk m a b (.o (.sl none 0 0)) d f g h i) s) x s κ
theorem r21x0ok : RgOk P false o21x0 T8 r21x0 := fun _ _ x _ _ => by cases x; kernel_rfl
def o21x1 : Array Oper := regO (pth [1, 0, 0] c21v)
def r21x1 : RG X8 := fun call yl x s κ => X8.rec (motive := fun _ => MO X8) (fun m a b c d f g h i s κ => binC a (.o (.sl none 0 0)) 23 .eql P s (fun v0 s => κ (X8.mk m a b c a v0 g h i) s)) x s κ
theorem r21x1ok : RgOk P false o21x1 T8 r21x1 := fun _ _ x _ _ => by cases x; kernel_rfl
def o21x2 : Array Oper := regO (pth [1, 0, 1, 0, 0] c21v)
def r21x2 : RG X8 := fun call yl x s κ => X8.rec (motive := fun _ => MO X8) (fun m a b c d f g h i s κ => κ (X8.mk m a b (.o (.sl none 0 0)) d f g h i) s) x s κ
theorem r21x2ok : RgOk P false o21x2 T8 r21x2 := fun _ _ x _ _ => by cases x; kernel_rfl
def o21x3 : Array Oper := regO (pth [1, 1, 0] c21v)
def r21x3 : RG X8 := fun call yl x s κ => X8.rec (motive := fun _ => MO X8) (fun m a b c d f g h i s κ => buildSliceC P 23 0 [] s (fun v0 s => appendC P 23 23 v0 a s (fun v1 s => κ (X8.mk m a b v1 d f v0 a v1) s))) x s κ
theorem r21x3ok : RgOk P false o21x3 T8 r21x3 := fun _ _ x _ _ => by cases x; kernel_rfl
def S21 : SF X8 := (seqS (regS P t0.fq r21x0) (seqS (seqS (regS P t0.fq r21x1) (condS (fun x => X8.rec (motive := fun _ => FV) (fun _ _ _ _ _ z _ _ _ => z) x) (seqS (regS P t0.fq r21x2) retS) skipS)) (seqS (regS P t0.fq r21x3) retS)))
theorem S21ok : Sh P t0.fq T8 c21v S21 := by
  have e : c21v = (.seq (.region 0 o21x0 false) (.seq (.seq (.region 1 o21x1 false) (.cond (.tmp 4) (.seq (.region 2 o21x2 false) .ret) .skip)) (.seq (.region 3 o21x3 false) .ret))) := by kernel_rfl
  rw [e]
  exact (sh_seq (sh_reg r21x0ok) (sh_seq (sh_seq (sh_reg r21x1ok) (sh_cond (fun x => by cases x; rfl) (sh_seq (sh_reg r21x2ok) sh_ret) sh_skip)) (sh_seq (sh_reg r21x3ok) sh_ret)))
def A21 : List FV → Option X8 := fun l => match l with
  | [a] => some (X8.mk [] a .e .e .e .e .e .e .e)
  | _ => none
def L21 : LQ := shal P T8 S21 [.tmp 2] 4000 A21
def E21 : LA := evCall P t0.fa 4000 21
theorem G21 : Good P 21 L21 E21 := good_shal all0 (by kernel_rfl) (show FT P 21 = some (c21v, 8, [.tmp 2]) by kernel_rfl) S21ok (fun l x h => by
    unfold A21 at h
    split at h
    · cases h; exact ⟨by kernel_rfl, by kernel_rfl⟩
    · cases h) 4000
inductive X27 where
  | mk (m : List Nat) (a b c d f g h i l n o p r t u w y z A B C D E F G H I : FV)
def T27 (x : X27) : FF := X27.rec (motive := fun _ => FF) (fun m a b c d f g h i l n o p r t u w y z A B C D E F G H I => ⟨(.n a (.n b (.n g (.n D .e .e .e .e) .e .e .e) (.n n (.n H .e .e .e .e) .e .e .e) (.n t .e .e .e .e) (.n z .e .e .e .e)) (.n c (.n h (.n E .e .e .e .e) .e .e .e) (.n o (.n I .e .e .e .e) .e .e .e) (.n u .e .e .e .e) (.n A .e .e .e .e)) (.n d (.n i (.n F .e .e .e .e) .e .e .e) (.n p .e .e .e .e) (.n w .e .e .e .e) (.n B .e .e .e .e)) (.n f (.n l (.n G .e .e .e .e) .e .e .e) (.n r .e .e .e .e) (.n y .e .e .e .e) (.n C .e .e .e .e))), 27, m⟩) x
def c27v : Code := bodyOf P 27
def o27x0 : Array Oper := regO (pth [0] c27v)
def r27x0 : RG X27 := fun call yl x s κ => X27.rec (motive := fun _ => MO X27) (fun m a b c d f g h i l n o p r t u w y z A B C D E F G H I s κ => bxV b 53 s (fun v0 s => κ (X27.mk m a b c v0 (.o (.sl none 0 0)) g h i l n o p r t u w y z A B C D E F G H I) s)) x s κ
theorem r27x0ok : RgOk P false o27x0 T27 r27x0 := fun _ _ x _ _ => by cases x; kernel_rfl
def o27x1 : Array Oper := regO (pth [1, 0] c27v)
def r27x1 : RG X27 := fun call yl x s κ => X27.rec (motive := fun _ => MO X27) (fun m a b c d f g h i l n o p r t u w y z A B C D E F G H I s κ => ptrK d 1 s (fun v0 s => ldV v0 false 1 s (fun v1 s => buildSliceC P 23 1 [(0, v1)] s (fun v2 s => κ (X27.mk m a b c d f v2 h i v0 v1 v2 p r t u w y z A B C D E F G H I) s)))) x s κ
theorem r27x1ok : RgOk P false o27x1 T27 r27x1 := fun _ _ x _ _ => by cases x; kernel_rfl
def o27x2 : Array Oper := regO (pth [1, 1, 0, 0] c27v)
def r27x2 : RG X27 := fun call yl x s κ => X27.rec (motive := fun _ => MO X27) (fun m a b c d f g h i l n o p r t u w y z A B C D E F G H I s κ => ptrK d 29 s (fun v0 s => ldV v0 false 1 s (fun v1 s => lenC v1 P 23 s (fun v2 s => κ (X27.mk m a b c d f g h i l n o v0 v1 v2 (.i .i64 0) w y z A B C D E F G H I) s)))) x s κ
theorem r27x2ok : RgOk P false o27x2 T27 r27x2 := fun _ _ x _ _ => by cases x; kernel_rfl
def o27x3 : Array Oper := regO (pth [1, 1, 0, 1, 0, 0, 0] c27v)
def r27x3 : RG X27 := fun call yl x s κ => X27.rec (motive := fun _ => MO X27) (fun m a b c d f g h i l n o p r t u w y z A B C D E F G H I s κ => binC u t 3 .lss P s (fun v0 s => κ (X27.mk m a b c d f g h i l n o p r t u v0 y z A B C D E F G H I) s)) x s κ
theorem r27x3ok : RgOk P false o27x3 T27 r27x3 := fun _ _ x _ _ => by cases x; kernel_rfl
def o27x4 : Array Oper := regO (pth [1, 1, 0, 1, 0, 0, 1, 1, 0, 0, 0] c27v)
def r27x4 : RG X27 := fun call yl x s κ => X27.rec (motive := fun _ => MO X27) (fun m a b c d f g h i l n o p r t u w y z A B C D E F G H I s κ => natK u fun j => iaS r j 1 s (fun v0 s => ldV v0 false 1 s (fun v1 s => κ (X27.mk m a b c d f g h v1 l n o p r t u w v0 v1 A B C D E F G H I) s))) x s κ
theorem r27x4ok : RgOk P false o27x4 T27 r27x4 := fun _ _ x _ _ => by cases x; kernel_rfl
def o27x5 : Array Oper := regO (pth [1, 1, 0, 1, 0, 0, 1, 1, 0, 0, 1, 0] c27v)
def r27x5 : RG X27 := fun call yl x s κ => X27.rec (motive := fun _ => MO X27) (fun m a b c d f g h i l n o p r t u w y z A B C D E F G H I s κ => binC i a 3 .neq P s (fun v0 s => κ (X27.mk m a b c d f g h i l n o p r t u w y z i a v0 D E F G H I) s)) x s κ
theorem r27x5ok : RgOk P false o27x5 T27 r27x5 := fun _ _ x _ _ => by cases x; kernel_rfl
def o27x6 : Array Oper := regO (pth [1, 1, 0, 1, 0, 0, 1, 1, 0, 0, 1, 1, 0] c27v)
def r27x6 : RG X27 := fun call yl x s κ => X27.rec (motive := fun _ => MO X27) (fun m a b c d f g h i l n o p r t u w y z A B C D E F G H I s κ => buildSliceC P 23 1 [(0, i)] s (fun v0 s => appendC P 23 23 g v0 s (fun v1 s => κ (X27.mk m a b c d f v1 h i l n o p r t u w y z A B C g i v0 v1 H I) s))) x s κ
theorem r27x6ok : RgOk P false o27x6 T27 r27x6 := fun _ _ x _ _ => by cases x; kernel_rfl
def o27x7 : Array Oper := regO (pth [1, 1, 0, 1, 0, 0, 1, 1, 1] c27v)
def r27x7 : RG X27 := fun call yl x s κ => X27.rec (motive := fun _ => MO X27) (fun m a b c d f g h i l n o p r t u w y z A B C D E F G H I s κ => binC u (.i .i64 1) 3 .add P s (fun v0 s => κ (X27.mk m a b c d f g h i l n o p r t v0 w y z A B C D E F G v0 I) s)) x s κ
theorem r27x7ok : RgOk P false o27x7 T27 r27x7 := fun _ _ x _ _ => by cases x; kernel_rfl
def o27x8 : Array Oper := regO (pth [1, 1, 1, 0] c27v)
def r27x8 : RG X27 := fun call yl x s κ => X27.rec (motive := fun _ => MO X27) (fun m a b c d f g h i l n o p r t u w y z A B C D E F G H I s κ => κ (X27.mk m a b c d g g h i l n o p r t u w y z A B C D E F G H g) s) x s κ
theorem r27x8ok : RgOk P false o27x8 T27 r27x8 := fun _ _ x _ _ => by cases x; kernel_rfl
def S27 : SF X27 := (seqS (regS P t0.fq r27x0) (seqS (regS P t0.fq r27x1) (seqS (seqS (regS P t0.fq r27x2) (blkS 0 (loopS (seqS (regS P t0.fq r27x3) (seqS (condS (fun x => X27.rec (motive := fun _ => FV) (fun _ _ _ _ _ _ _ _ _ _ _ _ _ _ _ _ z _ _ _ _ _ _ _ _ _ _ _ => z) x) skipS (exitS 0)) (seqS (blkS 1 (seqS (regS P t0.fq r27x4) (seqS (regS P t0.fq r27x5) (condS (fun x => X27.rec (motive := fun _ => FV) (fun _ _ _ _ _ _ _ _ _ _ _ _ _ _ _ _ _ _ _ _ _ z _ _ _ _ _ _ => z) x) (regS P t0.fq r27x6) skipS)))) (regS P t0.fq r27x7))))))) (seqS (regS P t0.fq r27x8) retS))))
theorem S27ok : Sh P t0.fq T27 c27v S27 := by
  have e : c27v = (.seq (.region 0 o27x0 false) (.seq (.region 1 o27x1 false) (.seq (.seq (.region 2 o27x2 false) (.block 0 (.loop (.seq (.region 3 o27x3 false) (.seq (.cond (.tmp 15) .skip (.exit 0)) (.seq (.block 1 (.seq (.region 4 o27x4 false) (.seq (.region 5 o27x5 false) (.cond (.tmp 20) (.region 6 o27x6 false) .skip)))) (.region 7 o27x7 false))))))) (.seq (.region 8 o27x8 false) .ret)))) := by kernel_rfl
  rw [e]
  exact (sh_seq (sh_reg r27x0ok) (sh_seq (sh_reg r27x1ok) (sh_seq (sh_seq (sh_reg r27x2ok) (sh_blk 0 (sh_loop (sh_seq (sh_reg r27x3ok) (sh_seq (sh_cond (fun x => by cases x; rfl) sh_skip (sh_exit 0)) (sh_seq (sh_blk 1 (sh_seq (sh_reg r27x4ok) (sh_seq (sh_reg r27x5ok) (sh_cond (fun x => by cases x; rfl) (sh_reg r27x6ok) sh_skip)))) (sh_reg r27x7ok))))))) (sh_seq (sh_reg r27x8ok) sh_ret))))
def A27 : List FV → Option X27 := fun l => match l with
  | [a, b] => some (X27.mk [] a b .e .e .e .e .e .e .e .e .e .e .e .e .e .e .e .e .e .e .e .e .e .e .e .e .e)
  | _ => none
def L27 : LQ := shal P T27 S27 [.tmp 4] 4000 A27
def E27 : LA := evCall P t0.fa 4000 27
theorem G27 : Good P 27 L27 E27 := good_shal all0 (by kernel_rfl) (show FT P 27 = some (c27v, 27, [.tmp 4]) by kernel_rfl) S27ok (fun l x h => by
    unfold A27 at h
    split at h
    · cases h; exact ⟨by kernel_rfl, by kernel_rfl⟩
    · cases h) 4000
inductive X19 where
  | mk (m : List Nat) (a b c d f g h i l n o p r t u w y z A : FV)
def T19 (x : X19) : FF := X19.rec (motive := fun _ => FF) (fun m a b c d f g h i l n o p r t u w y z A => ⟨(.n a (.n b (.n g .e .e .e .e) (.n n .e .e .e .e) (.n t .e .e .e .e) (.n z .e .e .e .e)) (.n c (.n h .e .e .e .e) (.n o .e .e .e .e) (.n u .e .e .e .e) (.n A .e .e .e .e)) (.n d (.n i .e .e .e .e) (.n p .e .e .e .e) (.n w .e .e .e .e) .e) (.n f (.n l .e .e .e .e) (.n r .e .e .e .e) (.n y .e .e .e .e) .e)), 19, m⟩) x
def c32v : Code := bodyOf P 32
def o32x0 : Array Oper := regO (pth [0] c32v)
def r32x0 : RG X19 := fun call yl x s κ => X19.rec (motive := fun _ => MO X19) (fun m a b c d f g h i l n o p r t u w y z A s κ => κ (X19.mk m a b c d (.i .i64 0) g h i l n o p r t u w y z A) s) x s κ
theorem r32x0ok : RgOk P false o32x0 T19 r32x0 := fun _ _ x _ _ => by cases x; kernel_rfl
def o32x1 : Array Oper := regO (pth [1, 0, 0] c32v)
def r32x1 : RG X19 := fun call yl x s κ => X19.rec (motive := fun _ => MO X19) (fun m a b c d f g h i l n o p r t u w y z A s κ => lenC a P 23 s (fun v0 s => κ (X19.mk m a b c d f g a v0 (.i .i64 0) n o p r t u w y z A) s)) x s κ
theorem r32x1ok : RgOk P false o32x1 T19 r32x1 := fun _ _ x _ _ => by cases x; kernel_rfl
def o32x2 : Array Oper := regO (pth [1, 0, 1, 0, 0, 0] c32v)
def r32x2 : RG X19 := fun call yl x s κ => X19.rec (motive := fun _ => MO X19) (fun m a b c d f g h i l n o p r t u w y z A s κ => binC l i 3 .lss P s (fun v0 s => κ (X19.mk m a b c d f g h i l v0 o p r t u w y z A) s)) x s κ
theorem r32x2ok : RgOk P false o32x2 T19 r32x2 := fun _ _ x _ _ => by cases x; kernel_rfl
def o32x3 : Array Oper := regO (pth [1, 0, 1, 0, 0, 1, 1, 0, 0, 0] c32v)
def r32x3 : RG X19 := fun call yl x s κ => X19.rec (motive := fun _ => MO X19) (fun m a b c d f g h i l n o p r t u w y z A s κ => κ (X19.mk m a b c d f l h i l n l p r t u w y z A) s) x s κ
theorem r32x3ok : RgOk P false o32x3 T19 r32x3 := fun _ _ x _ _ => by cases x; kernel_rfl
def o32x4 : Array Oper := regO (pth [1, 0, 1, 0, 0, 1, 1, 0, 0, 1, 0] c32v)
def r32x4 : RG X19 := fun call yl x s κ => X19.rec (motive := fun _ => MO X19) (fun m a b c d f g h i l n o p r t u w y z A s κ => natK g fun j => iaS a j 1 s (fun v0 s => ldV v0 false 1 s (fun v1 s => binC b v1 3 .eql P s (fun v2 s => κ (X19.mk m a b c d f g h i l n o b a g v0 v1 v2 z A) s)))) x s κ
theorem r32x4ok : RgOk P false o32x4 T19 r32x4 := fun _ _ x _ _ => by cases x; kernel_rfl
def o32x5 : Array Oper := regO (pth [1, 0, 1, 0, 0, 1, 1, 0, 0, 1, 1, 0, 0] c32v)
def r32x5 : RG X19 := fun call yl x s κ => X19.rec (motive := fun _ => MO X19) (fun m a b c d f g h i l n o p r t u w y z A s κ => κ (X19.mk m a b c d g g h i l n o p r t u w y g A) s) x s κ
theorem r32x5ok : RgOk P false o32x5 T19 r32x5 := fun _ _ x _ _ => by cases x; kernel_rfl
def o32x6 : Array Oper := regO (pth [1, 0, 1, 0, 0, 1, 1, 1] c32v)
def r32x6 : RG X19 := fun call yl x s κ => X19.rec (motive := fun _ => MO X19) (fun m a b c d f g h i l n o p r t u w y z A s κ => binC l (.i .i64 1) 3 .add P s (fun v0 s => κ (X19.mk m a b c d f g h i v0 n o p r t u w y z v0) s)) x s κ
theorem r32x6ok : RgOk P false o32x6 T19 r32x6 := fun _ _ x _ _ => by cases x; kernel_rfl
def o32x7 : Array Oper := regO (pth [1, 1, 0] c32v)
def r32x7 : RG X19 := fun call yl x s κ => X19.rec (motive := fun _ => MO X19) (fun m a b c d f g h i l n o p r t u w y z A s κ => κ (X19.mk m a b c d (.o (.i .i64 (.negSucc 0))) g h i l n o p r t u w y z A) s) x s κ
theorem r32x7ok : RgOk P false o32x7 T19 r32x7 := fun _ _ x _ _ => by cases x; kernel_rfl
def S32 : SF X19 := (seqS (regS P t0.fq r32x0) (seqS (seqS (regS P t0.fq r32x1) (blkS 0 (loopS (seqS (regS P t0.fq r32x2) (seqS (condS (fun x => X19.rec (motive := fun _ => FV) (fun _ _ _ _ _ _ _ _ _ _ z _ _ _ _ _ _ _ _ _ => z) x) skipS (exitS 0)) (seqS (blkS 1 (seqS (regS P t0.fq r32x3) (seqS (regS P t0.fq r32x4) (condS (fun x => X19.rec (motive := fun _ => FV) (fun _ _ _ _ _ _ _ _ _ _ _ _ _ _ _ _ _ z _ _ => z) x) (seqS (regS P t0.fq r32x5) retS) skipS)))) (regS P t0.fq r32x6))))))) (seqS (regS P t0.fq r32x7) retS)))
theorem S32ok : Sh P t0.fq T19 c32v S32 := by
  have e : c32v = (.seq (.region 0 o32x0 false) (.seq (.seq (.region 1 o32x1 false) (.block 0 (.loop (.seq (.region 2 o32x2 false) (.seq (.cond (.tmp 9) .skip (.exit 0)) (.seq (.block 1 (.seq (.region 3 o32x3 false) (.seq (.region 4 o32x4 false) (.cond (.tmp 16) (.seq (.region 5 o32x5 false) .ret) .skip)))) (.region 6 o32x6 false))))))) (.seq (.region 7 o32x7 false) .ret))) := by kernel_rfl
  rw [e]
  exact (sh_seq (sh_reg r32x0ok) (sh_seq (sh_seq (sh_reg r32x1ok) (sh_blk 0 (sh_loop (sh_seq (sh_reg r32x2ok) (sh_seq (sh_cond (fun x => by cases x; rfl) sh_skip (sh_exit 0)) (sh_seq (sh_blk 1 (sh_seq (sh_reg r32x3ok) (sh_seq (sh_reg r32x4ok) (sh_cond (fun x => by cases x; rfl) (sh_seq (sh_reg r32x5ok) sh_ret) sh_skip)))) (sh_reg r32x6ok))))))) (sh_seq (sh_reg r32x7ok) sh_ret)))
def A32 : List FV → Option X19 := fun l => match l with
  | [a, b] => some (X19.mk [] a b .e .e .e .e .e .e .e .e .e .e .e .e .e .e .e .e .e)
  | _ => none
def L32 : LQ := shal P T19 S32 [.tmp 4] 4000 A32
def E32 : LA := evCall P t0.fa 4000 32
theorem G32 : Good P 32 L32 E32 := good_shal all0 (by kernel_rfl) (show FT P 32 = some (c32v, 19, [.tmp 4]) by kernel_rfl) S32ok (fun l x h => by
    unfold A32 at h
    split at h
    · cases h; exact ⟨by kernel_rfl, by kernel_rfl⟩
    · cases h) 4000
inductive X9 where
  | mk (m : List Nat) (a b c d f g h i l : FV)
def T9 (x : X9) : FF := X9.rec (motive := fun _ => FF) (fun m a b c d f g h i l => ⟨(.n a (.n b (.n g .e .e .e .e) .e .e .e) (.n c (.n h .e .e .e .e) .e .e .e) (.n d (.n i .e .e .e .e) .e .e .e) (.n f (.n l .e .e .e .e) .e .e .e)), 9, m⟩) x
def c39v : Code := bodyOf P 39
def o39x0 : Array Oper := regO (pth [0] c39v)
def r39x0 : RG X9 := fun call yl x s κ => X9.rec (motive := fun _ => MO X9) (fun m a b c d f g h i l s κ => κ (X9.mk m a b (.b false) d f g h i l) s) x s κ
theorem r39x0ok : RgOk P false o39x0 T9 r39x0 := fun _ _ x _ _ => by cases x; kernel_rfl
def o39x1 : Array Oper := regO (pth [1, 0] c39v)
def r39x1 : RG X9 := fun call yl x s κ => X9.rec (motive := fun _ => MO X9) (fun m a b c d f g h i l s κ => binC (.i .i64 0) a 3 .leq P s (fun v0 s => bnk (fun κ1 => wantC v0 true (κ1 a s) (κ1 .e s)) (fun v1 s => bnk (fun κ1 => wantC v0 true (binC v1 (.i .i64 16) 3 .lss P s (κ1)) (κ1 .e s)) (fun v2 s => bnk (fun κ0 => condB v0 (κ0 v2 s) (κ0 (.b false) s)) (fun v3 s => κ (X9.mk m a b v3 a v0 v0 v1 v2 v3) s))))) x s κ
theorem r39x1ok : RgOk P false o39x1 T9 r39x1 := fun _ _ x _ _ => by cases x; kernel_rfl
def S39 : SF X9 := (seqS (regS P t0.fq r39x0) (seqS (regS P t0.fq r39x1) retS))
theorem S39ok : Sh P t0.fq T9 c39v S39 := by
  have e : c39v = (.seq (.region 0 o39x0 false) (.seq (.region 1 o39x1 false) .ret)) := by kernel_rfl
  rw [e]
  exact (sh_seq (sh_reg r39x0ok) (sh_seq (sh_reg r39x1ok) sh_ret))
def A39 : List FV → Option X9 := fun l => match l with
  | [a] => some (X9.mk [] a .e .e .e .e .e .e .e .e)
  | _ => none
def L39 : LQ := shal P T9 S39 [.tmp 2] 4000 A39
def E39 : LA := evCall P t0.fa 4000 39
theorem G39 : Good P 39 L39 E39 := good_shal all0 (by kernel_rfl) (show FT P 39 = some (c39v, 9, [.tmp 2]) by kernel_rfl) S39ok (fun l x h => by
    unfold A39 at h
    split at h
    · cases h; exact ⟨by kernel_rfl, by kernel_rfl⟩
    · cases h) 4000
inductive X35 where
  | mk (m : List Nat) (a b c d f g h i l n o p r t u w y z A B C D E F G H I J K L M N O Q R : FV)
def T35 (x : X35) : FF := X35.rec (motive := fun _ => FF) (fun m a b c d f g h i l n o p r t u w y z A B C D E F G H I J K L M N O Q R => ⟨(.n a (.n b (.n g (.n D .e .e .e .e) .e .e .e) (.n n (.n H .e .e .e .e) .e .e .e) (.n t (.n L .e .e .e .e) .e .e .e) (.n z (.n Q .e .e .e .e) .e .e .e)) (.n c (.n h (.n E .e .e .e .e) .e .e .e) (.n o (.n I .e .e .e .e) .e .e .e) (.n u (.n M .e .e .e .e) .e .e .e) (.n A (.n R .e .e .e .e) .e .e .e)) (.n d (.n i (.n F .e .e .e .e) .e .e .e) (.n p (.n J .e .e .e .e) .e .e .e) (.n w (.n N .e .e .e .e) .e .e .e) (.n B .e .e .e .e)) (.n f (.n l (.n G .e .e .e .e) .e .e .e) (.n r (.n K .e .e .e .e) .e .e .e) (.n y (.n O .e .e .e .e) .e .e .e) (.n C .e .e .e .e))), 35, m⟩) x
def c43v : Code := bodyOf P 43
def o43x0 : Array Oper := regO (pth [0] c43v)
def r43x0 : RG X35 := fun call yl x s κ => X35.rec (motive := fun _ => MO X35) (fun m a b c d f g h i l n o p r t u w y z A B C D E F G H I J K L M N O Q R s κ => bxV a 47 s (fun v0 s => κ (X35.mk m a v0 (.b false) d f g h i l n o p r t u w y z A B C D E F G H I J K L M N O Q R) s)) x s κ
theorem r43x0ok : RgOk P false o43x0 T35 r43x0 := fun _ _ x _ _ => by cases x; kernel_rfl
def o43x1 : Array Oper := regO (pth [1, 0] c43v)
def r43x1 : RG X35 := fun call yl x s κ => X35.rec (motive := fun _ => MO X35) (fun m a b c d f g h i l n o p r t u w y z A B C D E F G H I J K L M N O Q R s κ => ptrK b 0 s (fun v0 s => ldV v0 false 1 s (fun v1 s => lenC v1 P 44 s (fun v2 s => ptrK b 6 s (fun v3 s => ldV v3 false 1 s (fun v4 s => lenC v4 P 45 s (fun v5 s => binC v2 v5 3 .add P s (fun v6 s => ptrK b 3 s (fun v7 s => ldV v7 false 1 s (fun v8 s => lenC v8 P 9 s (fun v9 s => binC v6 v9 3 .add P s (fun v10 s => binC v10 (.i .i64 0) 3 .eql P s (fun v11 s => bnk (fun κ1 => wantC v11 true (ptrK b 1 s (κ1)) (κ1 .e s)) (fun v12 s => bnk (fun κ1 => wantC v11 true (ldV v12 false 1 s (κ1)) (κ1 .e s)) (fun v13 s => bnk (fun κ1 => wantC v11 true (binC v13 (.i .i64 0) 3 .eql P s (κ1)) (κ1 .e s)) (fun v14 s => bnk (fun κ0 => condB v11 (κ0 v14 s) (κ0 (.b false) s)) (fun v15 s => bnk (fun κ1 => wantC v15 true (ptrK b 2 s (κ1)) (κ1 .e s)) (fun v16 s => bnk (fun κ1 => wantC v15 true (ldV v16 false 1 s (κ1)) (κ1 .e s)) (fun v17 s => bnk (fun κ1 => wantC v15 true (binC v17 (.i .i64 0) 3 .eql P s (κ1)) (κ1 .e s)) (fun v18 s => bnk (fun κ0 => condB v15 (κ0 v18 s) (κ0 (.b false) s)) (fun v19 s => bnk (fun κ1 => wantC v19 true (ptrK b 4 s (κ1)) (κ1 .e s)) (fun v20 s => bnk (fun κ1 => wantC v19 true (ldV v20 false 1 s (κ1)) (κ1 .e s)) (fun v21 s => bnk (fun κ1 => wantC v19 true (binC v21 (.i .i64 0) 3 .eql P s (κ1)) (κ1 .e s)) (fun v22 s => bnk (fun κ0 => condB v19 (κ0 v22 s) (κ0 (.b false) s)) (fun v23 s => bnk (fun κ1 => wantC v23 true (ptrK b 5 s (κ1)) (κ1 .e s)) (fun v24 s => bnk (fun κ1 => wantC v23 true (ldV v24 false 1 s (κ1)) (κ1 .e s)) (fun v25 s => bnk (fun κ1 => wantC v23 true (binC v25 (.i .i64 0) 3 .eql P s (κ1)) (κ1 .e s)) (fun v26 s => bnk (fun κ0 => condB v23 (κ0 v26 s) (κ0 (.b false) s)) (fun v27 s => κ (X35.mk m a b v27 v0 v1 v2 v3 v4 v5 v6 v7 v8 v9 v10 v11 v11 v12 v13 v14 v15 v15 v16 v17 v18 v19 v19 v20 v21 v22 v23 v23 v24 v25 v26 v27) s))))))))))))))))))))))))))))) x s κ
theorem r43x1ok : RgOk P false o43x1 T35 r43x1 := fun _ _ x _ _ => by cases x; kernel_rfl
def S43 : SF X35 := (seqS (regS P t0.fq r43x0) (seqS (regS P t0.fq r43x1) retS))
theorem S43ok : Sh P t0.fq T35 c43v S43 := by
  have e : c43v = (.seq (.region 0 o43x0 false) (.seq (.region 1 o43x1 false) .ret)) := by kernel_rfl
  rw [e]
  exact (sh_seq (sh_reg r43x0ok) (sh_seq (sh_reg r43x1ok) sh_ret))
def A43 : List FV → Option X35 := fun l => match l with
  | [a] => some (X35.mk [] a .e .e .e .e .e .e .e .e .e .e .e .e .e .e .e .e .e .e .e .e .e .e .e .e .e .e .e .e .e .e .e .e .e .e)
  | _ => none
def L43 : LQ := shal P T35 S43 [.tmp 2] 4000 A43
def E43 : LA := evCall P t0.fa 4000 43
theorem G43 : Good P 43 L43 E43 := good_shal all0 (by kernel_rfl) (show FT P 43 = some (c43v, 35, [.tmp 2]) by kernel_rfl) S43ok (fun l x h => by
    unfold A43 at h
    split at h
    · cases h; exact ⟨by kernel_rfl, by kernel_rfl⟩
    · cases h) 4000
inductive X15 where
  | mk (m : List Nat) (a b c d f g h i l n o p r t u : FV)
def T15 (x : X15) : FF := X15.rec (motive := fun _ => FF) (fun m a b c d f g h i l n o p r t u => ⟨(.n a (.n b (.n g .e .e .e .e) (.n n .e .e .e .e) (.n t .e .e .e .e) .e) (.n c (.n h .e .e .e .e) (.n o .e .e .e .e) (.n u .e .e .e .e) .e) (.n d (.n i .e .e .e .e) (.n p .e .e .e .e) .e .e) (.n f (.n l .e .e .e .e) (.n r .e .e .e .e) .e .e)), 15, m⟩) x
def c46v : Code := bodyOf P 46
def o46x0 : Array Oper := regO (pth [0] c46v)
def r46x0 : RG X15 := fun call yl x s κ => X15.rec (motive := fun _ => MO X15) (fun m a b c d f g h i l n o p r t u s κ => κ (X15.mk m a b c d f g (.b false) i l n o p r t u) s) x s κ
theorem r46x0ok : RgOk P false o46x0 T15 r46x0 := fun _ _ x _ _ => by cases x; kernel_rfl
def o46x1 : Array Oper := regO (pth [1, 0] c46v)
def r46x1 : RG X15 := fun call yl x s κ => X15.rec (motive := fun _ => MO X15) (fun m a b c d f g h i l n o p r t u s κ => binC a b 3 .geq P s (fun v0 s => bnk (fun κ1 => wantC v0 true (κ1 a s) (κ1 .e s)) (fun v1 s => bnk (fun κ1 => wantC v0 true (κ1 c s) (κ1 .e s)) (fun v2 s => bnk (fun κ1 => wantC v0 true (binC v1 v2 3 .leq P s (κ1)) (κ1 .e s)) (fun v3 s => bnk (fun κ0 => condB v0 (κ0 v3 s) (κ0 (.b false) s)) (fun v4 s => κ (X15.mk m a b c d f g v4 a b v0 v0 v1 v2 v3 v4) s)))))) x s κ
theorem r46x1ok : RgOk P false o46x1 T15 r46x1 := fun _ _ x _ _ => by cases x; kernel_rfl
def S46 : SF X15 := (seqS (regS P t0.fq r46x0) (seqS (regS P t0.fq r46x1) retS))
theorem S46ok : Sh P t0.fq T15 c46v S46 := by
  have e : c46v = (.seq (.region 0 o46x0 false) (.seq (.region 1 o46x1 false) .ret)) := by kernel_rfl
  rw [e]
  exact (sh_seq (sh_reg r46x0ok) (sh_seq (sh_reg r46x1ok) sh_ret))
def A46 : List FV → Option X15 := fun l => match l with
  | [a, b, c] => some (X15.mk [] a b c .e .e .e .e .e .e .e .e .e .e .e .e)
  | _ => none
def L46 : LQ := shal P T15 S46 [.tmp 6] 4000 A46
def E46 : LA := evCall P t0.fa 4000 46
theorem G46 : Good P 46 L46 E46 := good_shal all0 (by kernel_rfl) (show FT P 46 = some (c46v, 15, [.tmp 6]) by kernel_rfl) S46ok (fun l x h => by
    unfold A46 at h
    split at h
    · cases h; exact ⟨by kernel_rfl, by kernel_rfl⟩
    · cases h) 4000
def c66v : Code := bodyOf P 66
def o66x0 : Array Oper := regO (pth [0] c66v)
def r66x0 : RG X8 := fun call yl x s κ => X8.rec (motive := fun _ => MO X8) (fun m a b c d f g h i s κ => κ (X8.mk m a b (.o (.sl none 0 0)) d f g h i) s) x s κ
theorem r66x0ok : RgOk P false o66x0 T8 r66x0 := fun _ _ x _ _ => by cases x; kernel_rfl
def o66x1 : Array Oper := regO (pth [1, 0, 0] c66v)
def r66x1 : RG X8 := fun call yl x s κ => X8.rec (motive := fun _ => MO X8) (fun m a b c d f g h i s κ => binC a (.o (.sl none 0 0)) 57 .eql P s (fun v0 s => κ (X8.mk m a b c a v0 g h i) s)) x s κ
theorem r66x1ok : RgOk P false o66x1 T8 r66x1 := fun _ _ x _ _ => by cases x; kernel_rfl
def o66x2 : Array Oper := regO (pth [1, 0, 1, 0, 0] c66v)
def r66x2 : RG X8 := fun call yl x s κ => X8.rec (motive := fun _ => MO X8) (fun m a b c d f g h i s κ => κ (X8.mk m a b (.o (.sl none 0 0)) d f g h i) s) x s κ
theorem r66x2ok : RgOk P false o66x2 T8 r66x2 := fun _ _ x _ _ => by cases x; kernel_rfl
def o66x3 : Array Oper := regO (pth [1, 1, 0] c66v)
def r66x3 : RG X8 := fun call yl x s κ => X8.rec (motive := fun _ => MO X8) (fun m a b c d f g h i s κ => buildSliceC P 57 0 [] s (fun v0 s => appendC P 57 57 v0 a s (fun v1 s => κ (X8.mk m a b v1 d f v0 a v1) s))) x s κ
theorem r66x3ok : RgOk P false o66x3 T8 r66x3 := fun _ _ x _ _ => by cases x; kernel_rfl
def S66 : SF X8 := (seqS (regS P t0.fq r66x0) (seqS (seqS (regS P t0.fq r66x1) (condS (fun x => X8.rec (motive := fun _ => FV) (fun _ _ _ _ _ z _ _ _ => z) x) (seqS (regS P t0.fq r66x2) retS) skipS)) (seqS (regS P t0.fq r66x3) retS)))
theorem S66ok : Sh P t0.fq T8 c66v S66 := by
  have e : c66v = (.seq (.region 0 o66x0 false) (.seq (.seq (.region 1 o66x1 false) (.cond (.tmp 4) (.seq (.region 2 o66x2 false) .ret) .skip)) (.seq (.region 3 o66x3 false) .ret))) := by kernel_rfl
  rw [e]
  exact (sh_seq (sh_reg r66x0ok) (sh_seq (sh_seq (sh_reg r66x1ok) (sh_cond (fun x => by cases x; rfl) (sh_seq (sh_reg r66x2ok) sh_ret) sh_skip)) (sh_seq (sh_reg r66x3ok) sh_ret)))
def A66 : List FV → Option X8 := fun l => match l with
  | [a] => some (X8.mk [] a .e .e .e .e .e .e .e)
  | _ => none
def L66 : LQ := shal P T8 S66 [.tmp 2] 4000 A66
def E66 : LA := evCall P t0.fa 4000 66
theorem G66 : Good P 66 L66 E66 := good_shal all0 (by kernel_rfl) (show FT P 66 = some (c66v, 8, [.tmp 2]) by kernel_rfl) S66ok (fun l x h => by
    unfold A66 at h
    split at h
    · cases h; exact ⟨by kernel_rfl, by kernel_rfl⟩
    · cases h) 4000
def c67v : Code := bodyOf P 67
def o67x0 : Array Oper := regO (pth [0] c67v)
def r67x0 : RG X19 := fun call yl x s κ => X19.rec (motive := fun _ => MO X19) (fun m a b c d f g h i l n o p r t u w y z A s κ => κ (X19.mk m a b c d (.i .i64 0) g h i l n o p r t u w y z A) s) x s κ
theorem r67x0ok : RgOk P false o67x0 T19 r67x0 := fun _ _ x _ _ => by cases x; kernel_rfl
def o67x1 : Array Oper := regO (pth [1, 0, 0] c67v)
def r67x1 : RG X19 := fun call yl x s κ => X19.rec (motive := fun _ => MO X19) (fun m a b c d f g h i l n o p r t u w y z A s κ => lenC a P 33 s (fun v0 s => κ (X19.mk m a b c d f g a v0 (.i .i64 0) n o p r t u w y z A) s)) x s κ
theorem r67x1ok : RgOk P false o67x1 T19 r67x1 := fun _ _ x _ _ => by cases x; kernel_rfl
def o67x2 : Array Oper := regO (pth [1, 0, 1, 0, 0, 0] c67v)
def r67x2 : RG X19 := fun call yl x s κ => X19.rec (motive := fun _ => MO X19) (fun m a b c d f g h i l n o p r t u w y z A s κ => binC l i 3 .lss P s (fun v0 s => κ (X19.mk m a b c d f g h i l v0 o p r t u w y z A) s)) x s κ
theorem r67x2ok : RgOk P false o67x2 T19 r67x2 := fun _ _ x _ _ => by cases x; kernel_rfl
def o67x3 : Array Oper := regO (pth [1, 0, 1, 0, 0, 1, 1, 0, 0, 0] c67v)
def r67x3 : RG X19 := fun call yl x s κ => X19.rec (motive := fun _ => MO X19) (fun m a b c d f g h i l n o p r t u w y z A s κ => κ (X19.mk m a b c d f l h i l n l p r t u w y z A) s) x s κ
theorem r67x3ok : RgOk P false o67x3 T19 r67x3 := fun _ _ x _ _ => by cases x; kernel_rfl
def o67x4 : Array Oper := regO (pth [1, 0, 1, 0, 0, 1, 1, 0, 0, 1, 0] c67v)
def r67x4 : RG X19 := fun call yl x s κ => X19.rec (motive := fun _ => MO X19) (fun m a b c d f g h i l n o p r t u w y z A s κ => natK g fun j => iaS a j 62 s (fun v0 s => ldV v0 true 62 s (fun v1 s => callV b [v1] call yl s (fun v2 s => κ (X19.mk m a b c d f g h i l n o b a g v0 v1 v2 z A) s)))) x s κ
theorem r67x4ok : RgOk P false o67x4 T19 r67x4 := fun _ _ x _ _ => by cases x; kernel_rfl
def o67x5 : Array Oper := regO (pth [1, 0, 1, 0, 0, 1, 1, 0, 0, 1, 1, 0, 0] c67v)
def r67x5 : RG X19 := fun call yl x s κ => X19.rec (motive := fun _ => MO X19) (fun m a b c d f g h i l n o p r t u w y z A s κ => κ (X19.mk m a b c d g g h i l n o p r t u w y g A) s) x s κ
theorem r67x5ok : RgOk P false o67x5 T19 r67x5 := fun _ _ x _ _ => by cases x; kernel_rfl
def o67x6 : Array Oper := regO (pth [1, 0, 1, 0, 0, 1, 1, 1] c67v)
def r67x6 : RG X19 := fun call yl x s κ => X19.rec (motive := fun _ => MO X19) (fun m a b c d f g h i l n o p r t u w y z A s κ => binC l (.i .i64 1) 3 .add P s (fun v0 s => κ (X19.mk m a b c d f g h i v0 n o p r t u w y z v0) s)) x s κ
theorem r67x6ok : RgOk P false o67x6 T19 r67x6 := fun _ _ x _ _ => by cases x; kernel_rfl
def o67x7 : Array Oper := regO (pth [1, 1, 0] c67v)
def r67x7 : RG X19 := fun call yl x s κ => X19.rec (motive := fun _ => MO X19) (fun m a b c d f g h i l n o p r t u w y z A s κ => κ (X19.mk m a b c d (.o (.i .i64 (.negSucc 0))) g h i l n o p r t u w y z A) s) x s κ
theorem r67x7ok : RgOk P false o67x7 T19 r67x7 := fun _ _ x _ _ => by cases x; kernel_rfl
def S67 : SF X19 := (seqS (regS P t0.fq r67x0) (seqS (seqS (regS P t0.fq r67x1) (blkS 0 (loopS (seqS (regS P t0.fq r67x2) (seqS (condS (fun x => X19.rec (motive := fun _ => FV) (fun _ _ _ _ _ _ _ _ _ _ z _ _ _ _ _ _ _ _ _ => z) x) skipS (exitS 0)) (seqS (blkS 1 (seqS (regS P t0.fq r67x3) (seqS (regS P t0.fq r67x4) (condS (fun x => X19.rec (motive := fun _ => FV) (fun _ _ _ _ _ _ _ _ _ _ _ _ _ _ _ _ _ z _ _ => z) x) (seqS (regS P t0.fq r67x5) retS) skipS)))) (regS P t0.fq r67x6))))))) (seqS (regS P t0.fq r67x7) retS)))
theorem S67ok : Sh P t0.fq T19 c67v S67 := by
  have e : c67v = (.seq (.region 0 o67x0 false) (.seq (.seq (.region 1 o67x1 false) (.block 0 (.loop (.seq (.region 2 o67x2 false) (.seq (.cond (.tmp 9) .skip (.exit 0)) (.seq (.block 1 (.seq (.region 3 o67x3 false) (.seq (.region 4 o67x4 false) (.cond (.tmp 16) (.seq (.region 5 o67x5 false) .ret) .skip)))) (.region 6 o67x6 false))))))) (.seq (.region 7 o67x7 false) .ret))) := by kernel_rfl
  rw [e]
  exact (sh_seq (sh_reg r67x0ok) (sh_seq (sh_seq (sh_reg r67x1ok) (sh_blk 0 (sh_loop (sh_seq (sh_reg r67x2ok) (sh_seq (sh_cond (fun x => by cases x; rfl) sh_skip (sh_exit 0)) (sh_seq (sh_blk 1 (sh_seq (sh_reg r67x3ok) (sh_seq (sh_reg r67x4ok) (sh_cond (fun x => by cases x; rfl) (sh_seq (sh_reg r67x5ok) sh_ret) sh_skip)))) (sh_reg r67x6ok))))))) (sh_seq (sh_reg r67x7ok) sh_ret)))
def A67 : List FV → Option X19 := fun l => match l with
  | [a, b] => some (X19.mk [] a b .e .e .e .e .e .e .e .e .e .e .e .e .e .e .e .e .e)
  | _ => none
def L67 : LQ := shal P T19 S67 [.tmp 4] 4000 A67
def E67 : LA := evCall P t0.fa 4000 67
theorem G67 : Good P 67 L67 E67 := good_shal all0 (by kernel_rfl) (show FT P 67 = some (c67v, 19, [.tmp 4]) by kernel_rfl) S67ok (fun l x h => by
    unfold A67 at h
    split at h
    · cases h; exact ⟨by kernel_rfl, by kernel_rfl⟩
    · cases h) 4000
inductive X13 where
  | mk (m : List Nat) (a b c d f g h i l n o p r : FV)
def T13 (x : X13) : FF := X13.rec (motive := fun _ => FF) (fun m a b c d f g h i l n o p r => ⟨(.n a (.n b (.n g .e .e .e .e) (.n n .e .e .e .e) .e .e) (.n c (.n h .e .e .e .e) (.n o .e .e .e .e) .e .e) (.n d (.n i .e .e .e .e) (.n p .e .e .e .e) .e .e) (.n f (.n l .e .e .e .e) (.n r .e .e .e .e) .e .e)), 13, m⟩) x
def c68v : Code := bodyOf P 68
def o68x0 : Array Oper := regO (pth [0] c68v)
def r68x0 : RG X13 := fun call yl x s κ => X13.rec (motive := fun _ => MO X13) (fun m a b c d f g h i l n o p r s κ => bxV a 53 s (fun v0 s => κ (X13.mk m a b v0 (.b false) f g h i l n o p r) s)) x s κ
theorem r68x0ok : RgOk P false o68x0 T13 r68x0 := fun _ _ x _ _ => by cases x; kernel_rfl
def o68x1 : Array Oper := regO (pth [1, 0] c68v)
def r68x1 : RG X13 := fun call yl x s κ => X13.rec (motive := fun _ => MO X13) (fun m a b c d f g h i l n o p r s κ => ptrK c 0 s (fun v0 s => ldV v0 false 1 s (fun v1 s => binC v1 (.i .i64 9) 3 .eql P s (fun v2 s => bnk (fun κ1 => wantC v2 true (ptrK c 1 s (κ1)) (κ1 .e s)) (fun v3 s => bnk (fun κ1 => wantC v2 true (ldV v3 false 1 s (κ1)) (κ1 .e s)) (fun v4 s => bnk (fun κ1 => wantC v2 true (ldV b false 1 s (κ1)) (κ1 .e s)) (fun v5 s => bnk (fun κ1 => wantC v2 true (binC v4 v5 3 .eql P s (κ1)) (κ1 .e s)) (fun v6 s => bnk (fun κ0 => condB v2 (κ0 v6 s) (κ0 (.b false) s)) (fun v7 s => κ (X13.mk m a b c v7 v0 v1 v2 v2 v3 v4 v5 v6 v7) s))))))))) x s κ
theorem r68x1ok : RgOk P false o68x1 T13 r68x1 := fun _ _ x _ _ => by cases x; kernel_rfl
def S68 : SF X13 := (seqS (regS P t0.fq r68x0) (seqS (regS P t0.fq r68x1) retS))
theorem S68ok : Sh P t0.fq T13 c68v S68 := by
  have e : c68v = (.seq (.region 0 o68x0 false) (.seq (.region 1 o68x1 false) .ret)) := by kernel_rfl
  rw [e]
  exact (sh_seq (sh_reg r68x0ok) (sh_seq (sh_reg r68x1ok) sh_ret))
def A68 : List FV → Option X13 := fun l => match l with
  | [a, b] => some (X13.mk [] a b .e .e .e .e .e .e .e .e .e .e .e)
  | _ => none
def L68 : LQ := shal P T13 S68 [.tmp 3] 4000 A68
def E68 : LA := evCall P t0.fa 4000 68
theorem G68 : Good P 68 L68 E68 := good_shal all0 (by kernel_rfl) (show FT P 68 = some (c68v, 13, [.tmp 3]) by kernel_rfl) S68ok (fun l x h => by
    unfold A68 at h
    split at h
    · cases h; exact ⟨by kernel_rfl, by kernel_rfl⟩
    · cases h) 4000
inductive X40 where
  | mk (m : List Nat) (a b c d f g h i l n o p r t u w y z A B C D E F G H I J K L M N O Q R S T U W Y : FV)
def T40 (x : X40) : FF := X40.rec (motive := fun _ => FF) (fun m a b c d f g h i l n o p r t u w y z A B C D E F G H I J K L M N O Q R S T U W Y => ⟨(.n a (.n b (.n g (.n D .e .e .e .e) (.n U .e .e .e .e) .e .e) (.n n (.n H .e .e .e .e) .e .e .e) (.n t (.n L .e .e .e .e) .e .e .e) (.n z (.n Q .e .e .e .e) .e .e .e)) (.n c (.n h (.n E .e .e .e .e) (.n W .e .e .e .e) .e .e) (.n o (.n I .e .e .e .e) .e .e .e) (.n u (.n M .e .e .e .e) .e .e .e) (.n A (.n R .e .e .e .e) .e .e .e)) (.n d (.n i (.n F .e .e .e .e) (.n Y .e .e .e .e) .e .e) (.n p (.n J .e .e .e .e) .e .e .e) (.n w (.n N .e .e .e .e) .e .e .e) (.n B (.n S .e .e .e .e) .e .e .e)) (.n f (.n l (.n G .e .e .e .e) .e .e .e) (.n r (.n K .e .e .e .e) .e .e .e) (.n y (.n O .e .e .e .e) .e .e .e) (.n C (.n T .e .e .e .e) .e .e .e))), 40, m⟩) x
def c72v : Code := bodyOf P 72
def o72x0 : Array Oper := regO (pth [0] c72v)
def r72x0 : RG X40 := fun call yl x s κ => X40.rec (motive := fun _ => MO X40) (fun m a b c d f g h i l n o p r t u w y z A B C D E F G H I J K L M N O Q R S T U W Y s κ => allocC P 131 s (fun v0 s => κ (X40.mk m a b v0 d f g h i l n o p r t u w y z A B C D E F G H I J K L M N O Q R S T U W Y) s)) x s κ
theorem r72x0ok : RgOk P false o72x0 T40 r72x0 := fun _ _ x _ _ => by cases x; kernel_rfl
def o72x1 : Array Oper := regO (pth [1, 0] c72v)
def r72x1 : RG X40 := fun call yl x s κ => X40.rec (motive := fun _ => MO X40) (fun m a b c d f g h i l n o p r t u w y z A B C D E F G H I J K L M N O Q R S T U W Y s κ => (fun qv0 => sandS (fun s κ1 => nilC a s (κ1)) s (fun qv1 v2 s => sandS (fun s κ1 => ptrK v2 3 s (κ1)) s (fun qv3 v4 s => (fun qv5 => sandS (fun s κ1 => nilC a s (κ1)) s (fun qv6 v7 s => sandS (fun s κ1 => ptrK v7 4 s (κ1)) s (fun qv8 v9 s => (fun qv10 => sandS (fun s κ1 => nilC a s (κ1)) s (fun qv11 v12 s => sandS (fun s κ1 => ptrK v12 5 s (κ1)) s (fun qv13 v14 s => (fun qv15 => sandS (fun s κ1 => nilC a s (κ1)) s (fun qv16 v17 s => sandS (fun s κ1 => ptrK v17 6 s (κ1)) s (fun qv18 v19 s => (fun qv20 => sandS (fun s κ1 => nilC a s (κ1)) s (fun qv21 v22 s => sandS (fun s κ1 => ptrK v22 7 s (κ1)) s (fun qv23 v24 s => (fun qv25 => sandS (fun s κ1 => nilC a s (κ1)) s (fun qv26 v27 s => sandS (fun s κ1 => ptrK v27 8 s (κ1)) s (fun qv28 v29 s => (fun qv30 => sandS (fun s κ1 => nilC a s (κ1)) s (fun qv31 v32 s => sandS (fun s κ1 => ptrK v32 9 s (κ1)) s (fun qv33 v34 s => (fun qv35 => sandS (fun s κ1 => nilC a s (κ1)) s (fun qv36 v37 s => sandS (fun s κ1 => ptrK v37 10 s (κ1)) s (fun qv38 v39 s => (fun qv40 => sandS (fun s κ1 => nilC a s (κ1)) s (fun qv41 v42 s => sandS (fun s κ1 => ptrK v42 11 s (κ1)) s (fun qv43 v44 s => (fun qv45 => sandS (fun s κ1 => nilC a s (κ1)) s (fun qv46 v47 s => sandS (fun s κ1 => ptrK v47 24 s (κ1)) s (fun qv48 v49 s => (fun qv50 => sandS (fun s κ1 => nilC a s (κ1)) s (fun qv51 v52 s => sandS (fun s κ1 => ptrK v52 25 s (κ1)) s (fun qv53 v54 s => (fun qv55 => sandS (fun s κ1 => nilC a s (κ1)) s (fun qv56 v57 s => sandS (fun s κ1 => ptrK v57 26 s (κ1)) s (fun qv58 v59 s => sandS (fun s κ1 => buildC P 131 [(0, v4), (1, v9), (2, v14), (3, v19), (4, v24), (5, v29), (6, v34), (7, v39), (8, v44), (11, v49), (12, v54), (13, v59)] s (κ1)) s (fun qv60 v61 s => sandS (fun s κ1 => stA c v61 17 s (κ1)) s (fun qv62 v63 s => V.iff (dynA [] [qv0, qv1, qv3, qv5, qv6, qv8, qv10, qv11, qv13, qv15, qv16, qv18, qv20, qv21, qv23, qv25, qv26, qv28, qv30, qv31, qv33, qv35, qv36, qv38, qv40, qv41, qv43, qv45, qv46, qv48, qv50, qv51, qv53, qv55, qv56, qv58, qv60, qv62] [[], [false], [false, false], [true, true, true], [true, true, true, false], [true, true, true, false, false], [true, true, true, true, true, true], [true, true, true, true, true, true, false], [true, true, true, true, true, true, false, false], [true, true, true, true, true, true, true, true, true], [true, true, true, true, true, true, true, true, true, false], [true, true, true, true, true, true, true, true, true, false, false], [true, true, true, true, true, true, true, true, true, true, true, true], [true, true, true, true, true, true, true, true, true, true, true, true, false], [true, true, true, true, true, true, true, true, true, true, true, true, false, false], [true, true, true, true, true, true, true, true, true, true, true, true, true, true, true], [true, true, true, true, true, true, true, true, true, true, true, true, true, true, true, false], [true, true, true, true, true, true, true, true, true, true, true, true, true, true, true, false, false], [true, true, true, true, true, true, true, true, true, true, true, true, true, true, true, true, true, true], [true, true, true, true, true, true, true, true, true, true, true, true, true, true, true, true, true, true, false], [true, true, true, true, true, true, true, true, true, true, true, true, true, true, true, true, true, true, false, false], [true, true, true, true, true, true, true, true, true, true, true, true, true, true, true, true, true, true, true, true, true], [true, true, true, true, true, true, true, true, true, true, true, true, true, true, true, true, true, true, true, true, true, false], [true, true, true, true, true, true, true, true, true, true, true, true, true, true, true, true, true, true, true, true, true, false, false], [true, true, true, true, true, true, true, true, true, true, true, true, true, true, true, true, true, true, true, true, true, true, true, true], [true, true, true, true, true, true, true, true, true, true, true, true, true, true, true, true, true, true, true, true, true, true, true, true, false], [true, true, true, true, true, true, true, true, true, true, true, true, true, true, true, true, true, true, true, true, true, true, true, true, false, false], [true, true, true, true, true, true, true, true, true, true, true, true, true, true, true, true, true, true, true, true, true, true, true, true, true, true, true], [true, true, true, true, true, true, true, true, true, true, true, true, true, true, true, true, true, true, true, true, true, true, true, true, true, true, true, false], [true, true, true, true, true, true, true, true, true, true, true, true, true, true, true, true, true, true, true, true, true, true, true, true, true, true, true, false, false], [true, true, true, true, true, true, true, true, true, true, true, true, true, true, true, true, true, true, true, true, true, true, true, true, true, true, true, true, true, true], [true, true, true, true, true, true, true, true, true, true, true, true, true, true, true, true, true, true, true, true, true, true, true, true, true, true, true, true, true, true, false], [true, true, true, true, true, true, true, true, true, true, true, true, true, true, true, true, true, true, true, true, true, true, true, true, true, true, true, true, true, true, false, false], [true, true, true, true, true, true, true, true, true, true, true, true, true, true, true, true, true, true, true, true, true, true, true, true, true, true, true, true, true, true, true, true, true], [true, true, true, true, true, true, true, true, true, true, true, true, true, true, true, true, true, true, true, true, true, true, true, true, true, true, true, true, true, true, true, true, true, false], [true, true, true, true, true, true, true, true, true, true, true, true, true, true, true, true, true, true, true, true, true, true, true, true, true, true, true, true, true, true, true, true, true, false, false], [false, false, false, false, false, false, false, false, false, false, false, false, false, false, false, false, false, false, false, false, false, false, false, false, false, false, false, false, false, false, false, false, false, false, false, false], [false, false, false, false, false, false, false, false, false, false, false, false, false, false, false, false, false, false, false, false, false, false, false, false, false, false, false, false, false, false, false, false, false, false, false, false, false]]) (κ (X40.mk m a b c a v2 v4 a v7 v9 a v12 v14 a v17 v19 a v22 v24 a v27 v29 a v32 v34 a v37 v39 a v42 v44 a v47 v49 a v52 v54 a v57 v59 v61) s)))))) (qz s)))) (qz s)))) (qz s)))) (qz s)))) (qz s)))) (qz s)))) (qz s)))) (qz s)))) (qz s)))) (qz s)))) (qz s)))) (qz s)) x s κ
theorem r72x1ok : RgOk P true o72x1 T40 r72x1 := fun _ _ x _ _ => by cases x; kernel_rfl
def S72 : SF X40 := (seqS (regS P t0.fq r72x0) (seqS (regS P t0.fq r72x1) retS))
theorem S72ok : Sh P t0.fq T40 c72v S72 := by
  have e : c72v = (.seq (.region 0 o72x0 false) (.seq (.region 1 o72x1 true) .ret)) := by kernel_rfl
  rw [e]
  exact (sh_seq (sh_reg r72x0ok) (sh_seq (sh_reg r72x1ok) sh_ret))
def A72 : List FV → Option X40 := fun l => match l with
  | [a] => some (X40.mk [] a .e .e .e .e .e .e .e .e .e .e .e .e .e .e .e .e .e .e .e .e .e .e .e .e .e .e .e .e .e .e .e .e .e .e .e .e .e .e .e)
  | _ => none
def L72 : LQ := shal P T40 S72 [.cell 2 131] 4000 A72
def E72 : LA := evCall P t0.fa 4000 72
theorem G72 : Good P 72 L72 E72 := good_shal all0 (by kernel_rfl) (show FT P 72 = some (c72v, 40, [.cell 2 131]) by kernel_rfl) S72ok (fun l x h => by
    unfold A72 at h
    split at h
    · cases h; exact ⟨by kernel_rfl, by kernel_rfl⟩
    · cases h) 4000
inductive X59 where
  | mk (m : List Nat) (a b c d f g h i l n o p r t u w y z A B C D E F G H I J K L M N O Q R S T U W Y Z a1 b1 c1 d1 f1 g1 h1 i1 l1 n1 o1 p1 r1 t1 u1 w1 y1 z1 : FV)
def T59 (x : X59) : FF := X59.rec (motive := fun _ => FF) (fun m a b c d f g h i l n o p r t u w y z A B C D E F G H I J K L M N O Q R S T U W Y Z a1 b1 c1 d1 f1 g1 h1 i1 l1 n1 o1 p1 r1 t1 u1 w1 y1 z1 => ⟨(.n a (.n b (.n g (.n D .e .e .e .e) (.n U .e .e .e .e) (.n r1 .e .e .e .e) .e) (.n n (.n H .e .e .e .e) (.n a1 .e .e .e .e) (.n y1 .e .e .e .e) .e) (.n t (.n L .e .e .e .e) (.n f1 .e .e .e .e) .e .e) (.n z (.n Q .e .e .e .e) (.n l1 .e .e .e .e) .e .e)) (.n c (.n h (.n E .e .e .e .e) (.n W .e .e .e .e) (.n t1 .e .e .e .e) .e) (.n o (.n I .e .e .e .e) (.n b1 .e .e .e .e) (.n z1 .e .e .e .e) .e) (.n u (.n M .e .e .e .e) (.n g1 .e .e .e .e) .e .e) (.n A (.n R .e .e .e .e) (.n n1 .e .e .e .e) .e .e)) (.n d (.n i (.n F .e .e .e .e) (.n Y .e .e .e .e) (.n u1 .e .e .e .e) .e) (.n p (.n J .e .e .e .e) (.n c1 .e .e .e .e) .e .e) (.n w (.n N .e .e .e .e) (.n h1 .e .e .e .e) .e .e) (.n B (.n S .e .e .e .e) (.n o1 .e .e .e .e) .e .e)) (.n f (.n l (.n G .e .e .e .e) (.n Z .e .e .e .e) (.n w1 .e .e .e .e) .e) (.n r (.n K .e .e .e .e) (.n d1 .e .e .e .e) .e .e) (.n y (.n O .e .e .e .e) (.n i1 .e .e .e .e) .e .e) (.n C (.n T .e .e .e .e) (.n p1 .e .e .e .e) .e .e))), 59, m⟩) x
def c76v : Code := bodyOf P 76
def o76x0 : Array Oper := regO (pth [0] c76v)
def r76x0 : RG X59 := fun call yl x s κ => X59.rec (motive := fun _ => MO X59) (fun m a b c d f g h i l n o p r t u w y z A B C D E F G H I J K L M N O Q R S T U W Y Z a1 b1 c1 d1 f1 g1 h1 i1 l1 n1 o1 p1 r1 t1 u1 w1 y1 z1 s κ => bxV a 53 s (fun v0 s => κ (X59.mk m a v0 (.b false) d f g h i l n o p r t u w y z A B C D E F G H I J K L M N O Q R S T U W Y Z a1 b1 c1 d1 f1 g1 h1 i1 l1 n1 o1 p1 r1 t1 u1 w1 y1 z1) s)) x s κ
theorem r76x0ok : RgOk P false o76x0 T59 r76x0 := fun _ _ x _ _ => by cases x; kernel_rfl
def o76x1 : Array Oper := regO (pth [1, 0] c76v)
def r76x1 : RG X59 := fun call yl x s κ => X59.rec (motive := fun _ => MO X59) (fun m a b c d f g h i l n o p r t u w y z A B C D E F G H I J K L M N O Q R S T U W Y Z a1 b1 c1 d1 f1 g1 h1 i1 l1 n1 o1 p1 r1 t1 u1 w1 y1 z1 s κ => ptrK b 0 s (fun v0 s => ldV v0 false 1 s (fun v1 s => binC (.i .i64 8) v1 3 .leq P s (fun v2 s => bnk (fun κ1 => wantC v2 true (ptrK b 0 s (κ1)) (κ1 .e s)) (fun v3 s => bnk (fun κ1 => wantC v2 true (ldV v3 false 1 s (κ1)) (κ1 .e s)) (fun v4 s => bnk (fun κ1 => wantC v2 true (binC v4 (.i .i64 14) 3 .leq P s (κ1)) (κ1 .e s)) (fun v5 s => bnk (fun κ0 => condB v2 (κ0 v5 s) (κ0 (.b false) s)) (fun v6 s => κ (X59.mk m a b c v6 f g v0 v1 v2 v2 v3 v4 v5 v6 u w y z A B C D E F G H I J K L M N O Q R S T U W Y Z a1 b1 c1 d1 f1 g1 h1 i1 l1 n1 o1 p1 r1 t1 u1 w1 y1 z1) s)))))))) x s κ
theorem r76x1ok : RgOk P false o76x1 T59 r76x1 := fun _ _ x _ _ => by cases x; kernel_rfl
def o76x2 : Array Oper := regO (pth [1, 1, 0, 0] c76v)
def r76x2 : RG X59 := fun call yl x s κ => X59.rec (motive := fun _ => MO X59) (fun m a b c d f g h i l n o p r t u w y z A B C D E F G H I J K L M N O Q R S T U W Y Z a1 b1 c1 d1 f1 g1 h1 i1 l1 n1 o1 p1 r1 t1 u1 w1 y1 z1 s κ => ptrK b 29 s (fun v0 s => ldV v0 false 1 s (fun v1 s => lenC v1 P 23 s (fun v2 s => κ (X59.mk m a b c d f g h i l n o p r t v0 v1 v2 (.i .i64 0) A B C D E F G H I J K L M N O Q R S T U W Y Z a1 b1 c1 d1 f1 g1 h1 i1 l1 n1 o1 p1 r1 t1 u1 w1 y1 z1) s)))) x s κ
theorem r76x2ok : RgOk P false o76x2 T59 r76x2 := fun _ _ x _ _ => by cases x; kernel_rfl
def o76x3 : Array Oper := regO (pth [1, 1, 0, 1, 0, 0, 0] c76v)
def r76x3 : RG X59 := fun call yl x s κ => X59.rec (motive := fun _ => MO X59) (fun m a b c d f g h i l n o p r t u w y z A B C D E F G H I J K L M N O Q R S T U W Y Z a1 b1 c1 d1 f1 g1 h1 i1 l1 n1 o1 p1 r1 t1 u1 w1 y1 z1 s κ => binC z y 3 .lss P s (fun v0 s => κ (X59.mk m a b c d f g h i l n o p r t u w y z v0 B C D E F G H I J K L M N O Q R S T U W Y Z a1 b1 c1 d1 f1 g1 h1 i1 l1 n1 o1 p1 r1 t1 u1 w1 y1 z1) s)) x s κ
theorem r76x3ok : RgOk P false o76x3 T59 r76x3 := fun _ _ x _ _ => by cases x; kernel_rfl
def o76x4 : Array Oper := regO (pth [1, 1, 0, 1, 0, 0, 1, 1, 0, 0, 0] c76v)
def r76x4 : RG X59 := fun call yl x s κ => X59.rec (motive := fun _ => MO X59) (fun m a b c d f g h i l n o p r t u w y z A B C D E F G H I J K L M N O Q R S T U W Y Z a1 b1 c1 d1 f1 g1 h1 i1 l1 n1 o1 p1 r1 t1 u1 w1 y1 z1 s κ => natK z fun j => iaS w j 1 s (fun v0 s => ldV v0 false 1 s (fun v1 s => κ (X59.mk m a b c d z v1 h i l n o p r t u w y z A z v0 v1 E F G H I J K L M N O Q R S T U W Y Z a1 b1 c1 d1 f1 g1 h1 i1 l1 n1 o1 p1 r1 t1 u1 w1 y1 z1) s))) x s κ
theorem r76x4ok : RgOk P false o76x4 T59 r76x4 := fun _ _ x _ _ => by cases x; kernel_rfl
def o76x5 : Array Oper := regO (pth [1, 1, 0, 1, 0, 0, 1, 1, 0, 0, 1, 0, 0] c76v)
def r76x5 : RG X59 := fun call yl x s κ => X59.rec (motive := fun _ => MO X59) (fun m a b c d f g h i l n o p r t u w y z A B C D E F G H I J K L M N O Q R S T U W Y Z a1 b1 c1 d1 f1 g1 h1 i1 l1 n1 o1 p1 r1 t1 u1 w1 y1 z1 s κ => binC g (.i .i64 0) 3 .lss P s (fun v0 s => bnk (fun κ1 => wantC v0 false (κ1 g s) (κ1 .e s)) (fun v1 s => bnk (fun κ1 => wantC v0 false (binC v1 (.i .i64 255) 3 .gtr P s (κ1)) (κ1 .e s)) (fun v2 s => bnk (fun κ0 => condB v0 (κ0 (.b true) s) (κ0 v2 s)) (fun v3 s => κ (X59.mk m a b c d f g h i l n o p r t u w y z A B C D v3 g v0 v0 v1 v2 v3 L M N O Q R S T U W Y Z a1 b1 c1 d1 f1 g1 h1 i1 l1 n1 o1 p1 r1 t1 u1 w1 y1 z1) s))))) x s κ
theorem r76x5ok : RgOk P false o76x5 T59 r76x5 := fun _ _ x _ _ => by cases x; kernel_rfl
def o76x6 : Array Oper := regO (pth [1, 1, 0, 1, 0, 0, 1, 1, 0, 0, 1, 0, 1, 0, 0] c76v)
def r76x6 : RG X59 := fun call yl x s κ => X59.rec (motive := fun _ => MO X59) (fun m a b c d f g h i l n o p r t u w y z A B C D E F G H I J K L M N O Q R S T U W Y Z a1 b1 c1 d1 f1 g1 h1 i1 l1 n1 o1 p1 r1 t1 u1 w1 y1 z1 s κ => κ (X59.mk m a b (.b false) d f g h i l n o p r t u w y z A B C D E F G H I J K L M N O Q R S T U W Y Z a1 b1 c1 d1 f1 g1 h1 i1 l1 n1 o1 p1 r1 t1 u1 w1 y1 z1) s) x s κ
theorem r76x6ok : RgOk P false o76x6 T59 r76x6 := fun _ _ x _ _ => by cases x; kernel_rfl
def o76x7 : Array Oper := regO (pth [1, 1, 0, 1, 0, 0, 1, 1, 0, 0, 1, 0, 1, 1, 0] c76v)
def r76x7 : RG X59 := fun call yl x s κ => X59.rec (motive := fun _ => MO X59) (fun m a b c d f g h i l n o p r t u w y z A B C D E F G H I J K L M N O Q R S T U W Y Z a1 b1 c1 d1 f1 g1 h1 i1 l1 n1 o1 p1 r1 t1 u1 w1 y1 z1 s κ => bnk (fun κ1 => wantC d true (κ1 g s) (κ1 .e s)) (fun v0 s => bnk (fun κ1 => wantC d true (binC v0 (.i .i64 16) 3 .geq P s (κ1)) (κ1 .e s)) (fun v1 s => bnk (fun κ1 => wantC d true (κ1 v1 s) (κ1 .e s)) (fun v2 s => bnk (fun κ1 => wantC v2 false (κ1 f s) (κ1 .e s)) (fun v3 s => bnk (fun κ1 => wantC v2 false (binC v3 (.i .i64 0) 3 .gtr P s (κ1)) (κ1 .e s)) (fun v4 s => bnk (fun κ1 => wantC v2 false (κ1 v4 s) (κ1 .e s)) (fun v5 s => bnk (fun κ1 => wantC v5 true (κ1 g s) (κ1 .e s)) (fun v6 s => bnk (fun κ1 => wantC v5 true (ptrK b 29 s (κ1)) (κ1 .e s)) (fun v7 s => bnk (fun κ1 => wantC v5 true (ldV v7 false 1 s (κ1)) (κ1 .e s)) (fun v8 s => bnk (fun κ1 => wantC v5 true (κ1 f s) (κ1 .e s)) (fun v9 s => bnk (fun κ1 => wantC v5 true (binC v9 (.i .i64 1) 3 .sub P s (κ1)) (κ1 .e s)) (fun v10 s => bnk (fun κ1 => wantC v5 true (natK v10 fun j => iaS v8 j 1 s (κ1)) (κ1 .e s)) (fun v11 s => bnk (fun κ1 => wantC v5 true (ldV v11 false 1 s (κ1)) (κ1 .e s)) (fun v12 s => bnk (fun κ1 => wantC v5 true (binC v6 v12 3 .leq P s (κ1)) (κ1 .e s)) (fun v13 s => bnk (fun κ1 => wantC v2 false (bnk (fun κ0 => condB v5 (κ0 v13 s) (κ0 (.b false) s)) (κ1)) (κ1 .e s)) (fun v14 s => bnk (fun κ1 => wantC d true (bnk (fun κ0 => condB v2 (κ0 (.b true) s) (κ0 v14 s)) (κ1)) (κ1 .e s)) (fun v15 s => bnk (fun κ0 => condB d (κ0 v15 s) (κ0 (.b false) s)) (fun v16 s => κ (X59.mk m a b c d f g h i l n o p r t u w y z A B C D E F G H I J K v16 d d v0 v1 v2 v3 v4 v5 v6 v7 v8 v9 v10 v11 v12 v13 v14 v15 v16 l1 n1 o1 p1 r1 t1 u1 w1 y1 z1) s)))))))))))))))))) x s κ
theorem r76x7ok : RgOk P false o76x7 T59 r76x7 := fun _ _ x _ _ => by cases x; kernel_rfl
def o76x8 : Array Oper := regO (pth [1, 1, 0, 1, 0, 0, 1, 1, 0, 0, 1, 0, 1, 1, 1, 0, 0] c76v)
def r76x8 : RG X59 := fun call yl x s κ => X59.rec (motive := fun _ => MO X59) (fun m a b c d f g h i l n o p r t u w y z A B C D E F G H I J K L M N O Q R S T U W Y Z a1 b1 c1 d1 f1 g1 h1 i1 l1 n1 o1 p1 r1 t1 u1 w1 y1 z1 s κ => κ (X59.mk m a b (.b false) d f g h i l n o p r t u w y z A B C D E F G H I J K L M N O Q R S T U W Y Z a1 b1 c1 d1 f1 g1 h1 i1 l1 n1 o1 p1 r1 t1 u1 w1 y1 z1) s) x s κ
theorem r76x8ok : RgOk P false o76x8 T59 r76x8 := fun _ _ x _ _ => by cases x; kernel_rfl
def o76x9 : Array Oper := regO (pth [1, 1, 0, 1, 0, 0, 1, 1, 1] c76v)
def r76x9 : RG X59 := fun call yl x s κ => X59.rec (motive := fun _ => MO X59) (fun m a b c d f g h i l n o p r t u w y z A B C D E F G H I J K L M N O Q R S T U W Y Z a1 b1 c1 d1 f1 g1 h1 i1 l1 n1 o1 p1 r1 t1 u1 w1 y1 z1 s κ => binC z (.i .i64 1) 3 .add P s (fun v0 s => κ (X59.mk m a b c d f g h i l n o p r t u w y v0 A B C D E F G H I J K L M N O Q R S T U W Y Z a1 b1 c1 d1 f1 g1 h1 i1 v0 n1 o1 p1 r1 t1 u1 w1 y1 z1) s)) x s κ
theorem r76x9ok : RgOk P false o76x9 T59 r76x9 := fun _ _ x _ _ => by cases x; kernel_rfl
def o76x10 : Array Oper := regO (pth [1, 1, 1, 0] c76v)
def r76x10 : RG X59 := fun call yl x s κ => X59.rec (motive := fun _ => MO X59) (fun m a b c d f g h i l n o p r t u w y z A B C D E F G H I J K L M N O Q R S T U W Y Z a1 b1 c1 d1 f1 g1 h1 i1 l1 n1 o1 p1 r1 t1 u1 w1 y1 z1 s κ => ptrK b 0 s (fun v0 s => ldV v0 false 1 s (fun v1 s => binC v1 (.i .i64 17) 3 .neq P s (fun v2 s => bnk (fun κ1 => wantC v2 false (ptrK b 29 s (κ1)) (κ1 .e s)) (fun v3 s => bnk (fun κ1 => wantC v2 false (ldV v3 false 1 s (κ1)) (κ1 .e s)) (fun v4 s => bnk (fun κ1 => wantC v2 false (lenC v4 P 23 s (κ1)) (κ1 .e s)) (fun v5 s => bnk (fun κ1 => wantC v2 false (binC v5 (.i .i64 0) 3 .gtr P s (κ1)) (κ1 .e s)) (fun v6 s => bnk (fun κ0 => condB v2 (κ0 (.b true) s) (κ0 v6 s)) (fun v7 s => κ (X59.mk m a b v7 d f g h i l n o p r t u w y z A B C D E F G H I J K L M N O Q R S T U W Y Z a1 b1 c1 d1 f1 g1 h1 i1 l1 v0 v1 v2 v2 v3 v4 v5 v6 v7) s))))))))) x s κ
theorem r76x10ok : RgOk P false o76x10 T59 r76x10 := fun _ _ x _ _ => by cases x; kernel_rfl
def S76 : SF X59 := (seqS (regS P t0.fq r76x0) (seqS (regS P t0.fq r76x1) (seqS (seqS (regS P t0.fq r76x2) (blkS 0 (loopS (seqS (regS P t0.fq r76x3) (seqS (condS (fun x => X59.rec (motive := fun _ => FV) (fun _ _ _ _ _ _ _ _ _ _ _ _ _ _ _ _ _ _ _ z _ _ _ _ _ _ _ _ _ _ _ _ _ _ _ _ _ _ _ _ _ _ _ _ _ _ _ _ _ _ _ _ _ _ _ _ _ _ _ _ => z) x) skipS (exitS 0)) (seqS (blkS 1 (seqS (regS P t0.fq r76x4) (blkS 2 (seqS (regS P t0.fq r76x5) (condS (fun x => X59.rec (motive := fun _ => FV) (fun _ _ _ _ _ _ _ _ _ _ _ _ _ _ _ _ _ _ _ _ _ _ _ z _ _ _ _ _ _ _ _ _ _ _ _ _ _ _ _ _ _ _ _ _ _ _ _ _ _ _ _ _ _ _ _ _ _ _ _ => z) x) (seqS (regS P t0.fq r76x6) retS) (seqS (regS P t0.fq r76x7) (condS (fun x => X59.rec (motive := fun _ => FV) (fun _ _ _ _ _ _ _ _ _ _ _ _ _ _ _ _ _ _ _ _ _ _ _ _ _ _ _ _ _ _ z _ _ _ _ _ _ _ _ _ _ _ _ _ _ _ _ _ _ _ _ _ _ _ _ _ _ _ _ _ => z) x) (seqS (regS P t0.fq r76x8) retS) skipS))))))) (regS P t0.fq r76x9))))))) (seqS (regS P t0.fq r76x10) retS))))
theorem S76ok : Sh P t0.fq T59 c76v S76 := by
  have e : c76v = (.seq (.region 0 o76x0 false) (.seq (.region 1 o76x1 false) (.seq (.seq (.region 2 o76x2 false) (.block 0 (.loop (.seq (.region 3 o76x3 false) (.seq (.cond (.tmp 18) .skip (.exit 0)) (.seq (.block 1 (.seq (.region 4 o76x4 false) (.block 2 (.seq (.region 5 o76x5 false) (.cond (.tmp 22) (.seq (.region 6 o76x6 false) .ret) (.seq (.region 7 o76x7 false) (.cond (.tmp 29) (.seq (.region 8 o76x8 false) .ret) .skip))))))) (.region 9 o76x9 false))))))) (.seq (.region 10 o76x10 false) .ret)))) := by kernel_rfl
  rw [e]
  exact (sh_seq (sh_reg r76x0ok) (sh_seq (sh_reg r76x1ok) (sh_seq (sh_seq (sh_reg r76x2ok) (sh_blk 0 (sh_loop (sh_seq (sh_reg r76x3ok) (sh_seq (sh_cond (fun x => by cases x; rfl) sh_skip (sh_exit 0)) (sh_seq (sh_blk 1 (sh_seq (sh_reg r76x4ok) (sh_blk 2 (sh_seq (sh_reg r76x5ok) (sh_cond (fun x => by cases x; rfl) (sh_seq (sh_reg r76x6ok) sh_ret) (sh_seq (sh_reg r76x7ok) (sh_cond (fun x => by cases x; rfl) (sh_seq (sh_reg r76x8ok) sh_ret) sh_skip))))))) (sh_reg r76x9ok))))))) (sh_seq (sh_reg r76x10ok) sh_ret))))
def A76 : List FV → Option X59 := fun l => match l with
  | [a] => some (X59.mk [] a .e .e .e .e .e .e .e .e .e .e .e .e .e .e .e .e .e .e .e .e .e .e .e .e .e .e .e .e .e .e .e .e .e .e .e .e .e .e .e .e .e .e .e .e .e .e .e .e .e .e .e .e .e .e .e .e .e .e)
  | _ => none
def L76 : LQ := shal P T59 S76 [.tmp 2] 4000 A76
def E76 : LA := evCall P t0.fa 4000 76
theorem G76 : Good P 76 L76 E76 := good_shal all0 (by kernel_rfl) (show FT P 76 = some (c76v, 59, [.tmp 2]) by kernel_rfl) S76ok (fun l x h => by
    unfold A76 at h
    split at h
    · cases h; exact ⟨by kernel_rfl, by kernel_rfl⟩
    · cases h) 4000
inductive X23 where
  | mk (m : List Nat) (a b c d f g h i l n o p r t u w y z A B C D E : FV)
def T23 (x : X23) : FF := X23.rec (motive := fun _ => FF) (fun m a b c d f g h i l n o p r t u w y z A B C D E => ⟨(.n a (.n b (.n g (.n D .e .e .e .e) .e .e .e) (.n n .e .e .e .e) (.n t .e .e .e .e) (.n z .e .e .e .e)) (.n c (.n h (.n E .e .e .e .e) .e .e .e) (.n o .e .e .e .e) (.n u .e .e .e .e) (.n A .e .e .e .e)) (.n d (.n i .e .e .e .e) (.n p .e .e .e .e) (.n w .e .e .e .e) (.n B .e .e .e .e)) (.n f (.n l .e .e .e .e) (.n r .e .e .e .e) (.n y .e .e .e .e) (.n C .e .e .e .e))), 23, m⟩) x
def c86v : Code := bodyOf P 86
def o86x0 : Array Oper := regO (pth [0] c86v)
def r86x0 : RG X23 := fun call yl x s κ => X23.rec (motive := fun _ => MO X23) (fun m a b c d f g h i l n o p r t u w y z A B C D E s κ => κ (X23.mk m a b c d f g c (.i .i64 0) l n o p r t u w y z A B C D E) s) x s κ
theorem r86x0ok : RgOk P false o86x0 T23 r86x0 := fun _ _ x _ _ => by cases x; kernel_rfl
def o86x1 : Array Oper := regO (pth [1, 0, 0, 0] c86v)
def r86x1 : RG X23 := fun call yl x s κ => X23.rec (motive := fun _ => MO X23) (fun m a b c d f g h i l n o p r t u w y z A B C D E s κ => binC i h 3 .lss P s (fun v0 s => κ (X23.mk m a b c d f g h i v0 n o p r t u w y z A B C D E) s)) x s κ
theorem r86x1ok : RgOk P false o86x1 T23 r86x1 := fun _ _ x _ _ => by cases x; kernel_rfl
def o86x2 : Array Oper := regO (pth [1, 0, 0, 1, 1, 0, 0, 0] c86v)
def r86x2 : RG X23 := fun call yl x s κ => X23.rec (motive := fun _ => MO X23) (fun m a b c d f g h i l n o p r t u w y z A B C D E s κ => nilC a s (fun v0 s => ptrK v0 1 s (fun v1 s => ldV v1 false 1 s (fun v2 s => cvV b .u8 s (fun v3 s => buildSliceC P 57 1 [(0, v3)] s (fun v4 s => appendC P 57 57 v2 v4 s (fun v5 s => nilC a s (fun v6 s => ptrK v6 1 s (fun v7 s => stA v7 v5 1 s (fun _ s => κ (X23.mk m a b c d f g h i l a a v0 v1 v2 b v3 v4 v5 v6 v7 C D E) s)))))))))) x s κ
theorem r86x2ok : RgOk P false o86x2 T23 r86x2 := fun _ _ x _ _ => by cases x; kernel_rfl
def o86x3 : Array Oper := regO (pth [1, 0, 0, 1, 1, 0, 0, 1] c86v)
def r86x3 : RG X23 := fun call yl x s κ => X23.rec (motive := fun _ => MO X23) (fun m a b c d f g h i l n o p r t u w y z A B C D E s κ => binC b (.i .u64 8) 3 .shr P s (fun v0 s => κ (X23.mk m a v0 c d f g h i l n o p r t u w y z A B b v0 E) s)) x s κ
theorem r86x3ok : RgOk P false o86x3 T23 r86x3 := fun _ _ x _ _ => by cases x; kernel_rfl
def o86x4 : Array Oper := regO (pth [1, 0, 0, 1, 1, 1] c86v)
def r86x4 : RG X23 := fun call yl x s κ => X23.rec (motive := fun _ => MO X23) (fun m a b c d f g h i l n o p r t u w y z A B C D E s κ => binC i (.i .i64 1) 3 .add P s (fun v0 s => κ (X23.mk m a b c d f g h v0 l n o p r t u w y z A B C D v0) s)) x s κ
theorem r86x4ok : RgOk P false o86x4 T23 r86x4 := fun _ _ x _ _ => by cases x; kernel_rfl
def S86 : SF X23 := (seqS (regS P t0.fq r86x0) (blkS 0 (loopS (seqS (regS P t0.fq r86x1) (seqS (condS (fun x => X23.rec (motive := fun _ => FV) (fun _ _ _ _ _ _ _ _ _ z _ _ _ _ _ _ _ _ _ _ _ _ _ _ => z) x) skipS (exitS 0)) (seqS (blkS 1 (seqS (regS P t0.fq r86x2) (regS P t0.fq r86x3))) (regS P t0.fq r86x4)))))))
theorem S86ok : Sh P t0.fq T23 c86v S86 := by
  have e : c86v = (.seq (.region 0 o86x0 false) (.block 0 (.loop (.seq (.region 1 o86x1 false) (.seq (.cond (.tmp 8) .skip (.exit 0)) (.seq (.block 1 (.seq (.region 2 o86x2 false) (.region 3 o86x3 false))) (.region 4 o86x4 false))))))) := by kernel_rfl
  rw [e]
  exact (sh_seq (sh_reg r86x0ok) (sh_blk 0 (sh_loop (sh_seq (sh_reg r86x1ok) (sh_seq (sh_cond (fun x => by cases x; rfl) sh_skip (sh_exit 0)) (sh_seq (sh_blk 1 (sh_seq (sh_reg r86x2ok) (sh_reg r86x3ok))) (sh_reg r86x4ok)))))))
def A86 : List FV → Option X23 := fun l => match l with
  | [a, b, c] => some (X23.mk [] a b c .e .e .e .e .e .e .e .e .e .e .e .e .e .e .e .e .e .e .e .e)
  | _ => none
def L86 : LQ := shal P T23 S86 [] 4000 A86
def E86 : LA := evCall P t0.fa 4000 86
theorem G86 : Good P 86 L86 E86 := good_shal all0 (by kernel_rfl) (show FT P 86 = some (c86v, 23, []) by kernel_rfl) S86ok (fun l x h => by
    unfold A86 at h
    split at h
    · cases h; exact ⟨by kernel_rfl, by kernel_rfl⟩
    · cases h) 4000
inductive X17 where
  | mk (m : List Nat) (a b c d f g h i l n o p r t u w y : FV)
def T17 (x : X17) : FF := X17.rec (motive := fun _ => FF) (fun m a b c d f g h i l n o p r t u w y => ⟨(.n a (.n b (.n g .e .e .e .e) (.n n .e .e .e .e) (.n t .e .e .e .e) .e) (.n c (.n h .e .e .e .e) (.n o .e .e .e .e) (.n u .e .e .e .e) .e) (.n d (.n i .e .e .e .e) (.n p .e .e .e .e) (.n w .e .e .e .e) .e) (.n f (.n l .e .e .e .e) (.n r .e .e .e .e) (.n y .e .e .e .e) .e)), 17, m⟩) x
def c91v : Code := bodyOf P 91
def o91x0 : Array Oper := regO (pth [] c91v)
def r91x0 : RG X17 := fun call yl x s κ => X17.rec (motive := fun _ => MO X17) (fun m a b c d f g h i l n o p r t u w y s κ => (fun qv0 => (fun qv1 => sandS (fun s κ1 => nilC a s (κ1)) s (fun qv2 v3 s => sandS (fun s κ1 => ptrK v3 1 s (κ1)) s (fun qv4 v5 s => sandS (fun s κ1 => ldV v5 false 1 s (κ1)) s (fun qv6 v7 s => (fun qv8 => sandS (fun s κ1 => nilC a s (κ1)) s (fun qv9 v10 s => sandS (fun s κ1 => ptrK v10 0 s (κ1)) s (fun qv11 v12 s => sandS (fun s κ1 => ldV v12 false 1 s (κ1)) s (fun qv13 v14 s => sandS (fun s κ1 => nilC v14 s (κ1)) s (fun qv15 v16 s => sandS (fun s κ1 => ptrK v16 30 s (κ1)) s (fun qv17 v18 s => sandS (fun s κ1 => sliceC P 51 v18 none none none s (κ1)) s (fun qv19 v20 s => sandS (fun s κ1 => appendC P 57 57 v7 v20 s (κ1)) s (fun qv21 v22 s => sandS (fun s κ1 => nilC a s (κ1)) s (fun qv23 v24 s => sandS (fun s κ1 => ptrK v24 1 s (κ1)) s (fun qv25 v26 s => sandS (fun s κ1 => stA v26 v22 1 s (κ1)) s (fun qv27 v28 s => V.iff (dynA [] [qv0, qv1, qv2, qv4, qv6, qv8, qv9, qv11, qv13, qv15, qv17, qv19, qv21, qv23, qv25, qv27] [[], [true], [true, false], [true, false, false], [true, false, false, false], [true, true, true, true, true], [true, true, true, true, true, false], [true, true, true, true, true, false, false], [true, true, true, true, true, false, false, false], [true, true, true, true, true, false, false, false, false], [true, true, true, true, true, false, false, false, false, false], [true, true, true, true, true, false, false, false, false, false, false], [true, false, false, false, false, false, false, false, false, false, false, false], [false, false, false, false, false, false, false, false, false, false, false, false, false], [false, false, false, false, false, false, false, false, false, false, false, false, false, false], [false, false, false, false, false, false, false, false, false, false, false, false, false, false, false]]) (κ (X17.mk m a b a a v3 v5 v7 a v10 v12 v14 v16 v18 v20 v22 v24 v26) s)))))))))))) (qz s))))) (qz s)) (qz s)) x s κ
theorem r91x0ok : RgOk P true o91x0 T17 r91x0 := fun _ _ x _ _ => by cases x; kernel_rfl
def S91 : SF X17 := (regS P t0.fq r91x0)
theorem S91ok : Sh P t0.fq T17 c91v S91 := by
  have e : c91v = (.region 0 o91x0 true) := by kernel_rfl
  rw [e]
  exact (sh_reg r91x0ok)
def A91 : List FV → Option X17 := fun l => match l with
  | [a] => some (X17.mk [] a .e .e .e .e .e .e .e .e .e .e .e .e .e .e .e .e)
  | _ => none
def L91 : LQ := shal P T17 S91 [] 4000 A91
def E91 : LA := evCall P t0.fa 4000 91
theorem G91 : Good P 91 L91 E91 := good_shal all0 (by kernel_rfl) (show FT P 91 = some (c91v, 17, []) by kernel_rfl) S91ok (fun l x h => by
    unfold A91 at h
    split at h
    · cases h; exact ⟨by kernel_rfl, by kernel_rfl⟩
    · cases h) 4000
inductive X26 where
  | mk (m : List Nat) (a b c d f g h i l n o p r t u w y z A B C D E F G H : FV)
def T26 (x : X26) : FF := X26.rec (motive := fun _ => FF) (fun m a b c d f g h i l n o p r t u w y z A B C D E F G H => ⟨(.n a (.n b (.n g (.n D .e .e .e .e) .e .e .e) (.n n (.n H .e .e .e .e) .e .e .e) (.n t .e .e .e .e) (.n z .e .e .e .e)) (.n c (.n h (.n E .e .e .e .e) .e .e .e) (.n o .e .e .e .e) (.n u .e .e .e .e) (.n A .e .e .e .e)) (.n d (.n i (.n F .e .e .e .e) .e .e .e) (.n p .e .e .e .e) (.n w .e .e .e .e) (.n B .e .e .e .e)) (.n f (.n l (.n G .e .e .e .e) .e .e .e) (.n r .e .e .e .e) (.n y .e .e .e .e) (.n C .e .e .e .e))), 26, m⟩) x
def c95v : Code := bodyOf P 95
def o95x0 : Array Oper := regO (pth [0] c95v)
def r95x0 : RG X26 := fun call yl x s κ => X26.rec (motive := fun _ => MO X26) (fun m a b c d f g h i l n o p r t u w y z A B C D E F G H s κ => κ (X26.mk m a b c d (.b false) g h i l n o p r t u w y z A B C D E F G H) s) x s κ
theorem r95x0ok : RgOk P false o95x0 T26 r95x0 := fun _ _ x _ _ => by cases x; kernel_rfl
def o95x1 : Array Oper := regO (pth [1, 0, 0] c95v)
def r95x1 : RG X26 := fun call yl x s κ => X26.rec (motive := fun _ => MO X26) (fun m a b c d f g h i l n o p r t u w y z A B C D E F G H s κ => lenC a P 23 s (fun v0 s => lenC b P 23 s (fun v1 s => binC v0 v1 3 .neq P s (fun v2 s => κ (X26.mk m a b c d f g a v0 b v1 v2 p r t u w y z A B C D E F G H) s)))) x s κ
theorem r95x1ok : RgOk P false o95x1 T26 r95x1 := fun _ _ x _ _ => by cases x; kernel_rfl
def o95x2 : Array Oper := regO (pth [1, 0, 1, 0, 0] c95v)
def r95x2 : RG X26 := fun call yl x s κ => X26.rec (motive := fun _ => MO X26) (fun m a b c d f g h i l n o p r t u w y z A B C D E F G H s κ => κ (X26.mk m a b c d (.b false) g h i l n o p r t u w y z A B C D E F G H) s) x s κ
theorem r95x2ok : RgOk P false o95x2 T26 r95x2 := fun _ _ x _ _ => by cases x; kernel_rfl
def o95x3 : Array Oper := regO (pth [1, 1, 0, 0] c95v)
def r95x3 : RG X26 := fun call yl x s κ => X26.rec (motive := fun _ => MO X26) (fun m a b c d f g h i l n o p r t u w y z A B C D E F G H s κ => lenC a P 23 s (fun v0 s => κ (X26.mk m a b c d f g h i l n o a v0 (.i .i64 0) u w y z A B C D E F G H) s)) x s κ
theorem r95x3ok : RgOk P false o95x3 T26 r95x3 := fun _ _ x _ _ => by cases x; kernel_rfl
def o95x4 : Array Oper := regO (pth [1, 1, 0, 1, 0, 0, 0] c95v)
def r95x4 : RG X26 := fun call yl x s κ => X26.rec (motive := fun _ => MO X26) (fun m a b c d f g h i l n o p r t u w y z A B C D E F G H s κ => binC t r 3 .lss P s (fun v0 s => κ (X26.mk m a b c d f g h i l n o p r t v0 w y z A B C D E F G H) s)) x s κ
theorem r95x4ok : RgOk P false o95x4 T26 r95x4 := fun _ _ x _ _ => by cases x; kernel_rfl
def o95x5 : Array Oper := regO (pth [1, 1, 0, 1, 0, 0, 1, 1, 0, 0, 0] c95v)
def r95x5 : RG X26 := fun call yl x s κ => X26.rec (motive := fun _ => MO X26) (fun m a b c d f g h i l n o p r t u w y z A B C D E F G H s κ => κ (X26.mk m a b c d f t h i l n o p r t u t y z A B C D E F G H) s) x s κ
theorem r95x5ok : RgOk P false o95x5 T26 r95x5 := fun _ _ x _ _ => by cases x; kernel_rfl
def o95x6 : Array Oper := regO (pth [1, 1, 0, 1, 0, 0, 1, 1, 0, 0, 1, 0] c95v)
def r95x6 : RG X26 := fun call yl x s κ => X26.rec (motive := fun _ => MO X26) (fun m a b c d f g h i l n o p r t u w y z A B C D E F G H s κ => (fun qv0 => (fun qv1 => sandS (fun s κ1 => natK g fun j => iaS a j 1 s (κ1)) s (fun qv2 v3 s => sandS (fun s κ1 => ldV v3 false 1 s (κ1)) s (fun qv4 v5 s => (fun qv6 => (fun qv7 => sandS (fun s κ1 => natK g fun j => iaS b j 1 s (κ1)) s (fun qv8 v9 s => sandS (fun s κ1 => ldV v9 false 1 s (κ1)) s (fun qv10 v11 s => sandS (fun s κ1 => binC v5 v11 3 .neq P s (κ1)) s (fun qv12 v13 s => V.iff (dynA [] [qv0, qv1, qv2, qv4, qv6, qv7, qv8, qv10, qv12] [[], [true], [false, false], [false, false, false], [true, true, true, true], [true, true, true, true, true], [true, true, true, true, false, false], [true, true, true, true, false, false, false], [false, false, false, false, false, false, false, false]]) (κ (X26.mk m a b c d f g h i l n o p r t u w a g v3 v5 b g v9 v11 v13 H) s))))) (qz s)) (qz s)))) (qz s)) (qz s)) x s κ
theorem r95x6ok : RgOk P true o95x6 T26 r95x6 := fun _ _ x _ _ => by cases x; kernel_rfl
def o95x7 : Array Oper := regO (pth [1, 1, 0, 1, 0, 0, 1, 1, 0, 0, 1, 1, 0, 0] c95v)
def r95x7 : RG X26 := fun call yl x s κ => X26.rec (motive := fun _ => MO X26) (fun m a b c d f g h i l n o p r t u w y z A B C D E F G H s κ => κ (X26.mk m a b c d (.b false) g h i l n o p r t u w y z A B C D E F G H) s) x s κ
theorem r95x7ok : RgOk P false o95x7 T26 r95x7 := fun _ _ x _ _ => by cases x; kernel_rfl
def o95x8 : Array Oper := regO (pth [1, 1, 0, 1, 0, 0, 1, 1, 1] c95v)
def r95x8 : RG X26 := fun call yl x s κ => X26.rec (motive := fun _ => MO X26) (fun m a b c d f g h i l n o p r t u w y z A B C D E F G H s κ => binC t (.i .i64 1) 3 .add P s (fun v0 s => κ (X26.mk m a b c d f g h i l n o p r v0 u w y z A B C D E F G v0) s)) x s κ
theorem r95x8ok : RgOk P false o95x8 T26 r95x8 := fun _ _ x _ _ => by cases x; kernel_rfl
def o95x9 : Array Oper := regO (pth [1, 1, 1, 0] c95v)
def r95x9 : RG X26 := fun call yl x s κ => X26.rec (motive := fun _ => MO X26) (fun m a b c d f g h i l n o p r t u w y z A B C D E F G H s κ => κ (X26.mk m a b c d (.b true) g h i l n o p r t u w y z A B C D E F G H) s) x s κ
theorem r95x9ok : RgOk P false o95x9 T26 r95x9 := fun _ _ x _ _ => by cases x; kernel_rfl
def S95 : SF X26 := (seqS (regS P t0.fq r95x0) (seqS (seqS (regS P t0.fq r95x1) (condS (fun x => X26.rec (motive := fun _ => FV) (fun _ _ _ _ _ _ _ _ _ _ _ z _ _ _ _ _ _ _ _ _ _ _ _ _ _ _ => z) x) (seqS (regS P t0.fq r95x2) retS) skipS)) (seqS (seqS (regS P t0.fq r95x3) (blkS 0 (loopS (seqS (regS P t0.fq r95x4) (seqS (condS (fun x => X26.rec (motive := fun _ => FV) (fun _ _ _ _ _ _ _ _ _ _ _ _ _ _ _ z _ _ _ _ _ _ _ _ _ _ _ => z) x) skipS (exitS 0)) (seqS (blkS 1 (seqS (regS P t0.fq r95x5) (seqS (regS P t0.fq r95x6) (condS (fun x => X26.rec (motive := fun _ => FV) (fun _ _ _ _ _ _ _ _ _ _ _ _ _ _ _ _ _ _ _ _ _ _ _ _ _ z _ => z) x) (seqS (regS P t0.fq r95x7) retS) skipS)))) (regS P t0.fq r95x8))))))) (seqS (regS P t0.fq r95x9) retS))))
theorem S95ok : Sh P t0.fq T26 c95v S95 := by
  have e : c95v = (.seq (.region 0 o95x0 false) (.seq (.seq (.region 1 o95x1 false) (.cond (.tmp 10) (.seq (.region 2 o95x2 false) .ret) .skip)) (.seq (.seq (.region 3 o95x3 false) (.block 0 (.loop (.seq (.region 4 o95x4 false) (.seq (.cond (.tmp 14) .skip (.exit 0)) (.seq (.block 1 (.seq (.region 5 o95x5 false) (.seq (.region 6 o95x6 true) (.cond (.tmp 24) (.seq (.region 7 o95x7 false) .ret) .skip)))) (.region 8 o95x8 false))))))) (.seq (.region 9 o95x9 false) .ret)))) := by kernel_rfl
  rw [e]
  exact (sh_seq (sh_reg r95x0ok) (sh_seq (sh_seq (sh_reg r95x1ok) (sh_cond (fun x => by cases x; rfl) (sh_seq (sh_reg r95x2ok) sh_ret) sh_skip)) (sh_seq (sh_seq (sh_reg r95x3ok) (sh_blk 0 (sh_loop (sh_seq (sh_reg r95x4ok) (sh_seq (sh_cond (fun x => by cases x; rfl) sh_skip (sh_exit 0)) (sh_seq (sh_blk 1 (sh_seq (sh_reg r95x5ok) (sh_seq (sh_reg r95x6ok) (sh_cond (fun x => by cases x; rfl) (sh_seq (sh_reg r95x7ok) sh_ret) sh_skip)))) (sh_reg r95x8ok))))))) (sh_seq (sh_reg r95x9ok) sh_ret))))
def A95 : List FV → Option X26 := fun l => match l with
  | [a, b] => some (X26.mk [] a b .e .e .e .e .e .e .e .e .e .e .e .e .e .e .e .e .e .e .e .e .e .e .e .e)
  | _ => none
def L95 : LQ := shal P T26 S95 [.tmp 4] 4000 A95
def E95 : LA := evCall P t0.fa 4000 95
theorem G95 : Good P 95 L95 E95 := good_shal all0 (by kernel_rfl) (show FT P 95 = some (c95v, 26, [.tmp 4]) by kernel_rfl) S95ok (fun l x h => by
    unfold A95 at h
    split at h
    · cases h; exact ⟨by kernel_rfl, by kernel_rfl⟩
    · cases h) 4000
def c97v : Code := bodyOf P 97
def o97x0 : Array Oper := regO (pth [0] c97v)
def r97x0 : RG X23 := fun call yl x s κ => X23.rec (motive := fun _ => MO X23) (fun m a b c d f g h i l n o p r t u w y z A B C D E s κ => bxV a 59 s (fun v0 s => κ (X23.mk m a v0 (.o (.sl none 0 0)) d f g h i l n o p r t u w y z A B C D E) s)) x s κ
theorem r97x0ok : RgOk P false o97x0 T23 r97x0 := fun _ _ x _ _ => by cases x; kernel_rfl
def o97x1 : Array Oper := regO (pth [1, 0] c97v)
def r97x1 : RG X23 := fun call yl x s κ => X23.rec (motive := fun _ => MO X23) (fun m a b c d f g h i l n o p r t u w y z A B C D E s κ => makeSliceC P 57 (.i .i64 0) (.i .i64 24) s (fun v0 s => κ (X23.mk m a b c v0 f g v0 i l n o p r t u w y z A B C D E) s)) x s κ
theorem r97x1ok : RgOk P false o97x1 T23 r97x1 := fun _ _ x _ _ => by cases x; kernel_rfl
def o97x2 : Array Oper := regO (pth [1, 1, 0, 0] c97v)
def r97x2 : RG X23 := fun call yl x s κ => X23.rec (motive := fun _ => MO X23) (fun m a b c d f g h i l n o p r t u w y z A B C D E s κ => ptrK b 0 s (fun v0 s => ldV v0 false 1 s (fun v1 s => ptrK b 1 s (fun v2 s => ldV v2 false 1 s (fun v3 s => ptrK b 2 s (fun v4 s => ldV v4 false 1 s (fun v5 s => buildC P 200 [(0, v1), (1, v3), (2, v5)] s (fun v6 s => κ (X23.mk m a b c d f g h v0 v1 v2 v3 v4 v5 v6 (.i .i64 0) w y z A B C D E) s)))))))) x s κ
theorem r97x2ok : RgOk P false o97x2 T23 r97x2 := fun _ _ x _ _ => by cases x; kernel_rfl
def o97x3 : Array Oper := regO (pth [1, 1, 0, 1, 0, 0, 0] c97v)
def r97x3 : RG X23 := fun call yl x s κ => X23.rec (motive := fun _ => MO X23) (fun m a b c d f g h i l n o p r t u w y z A B C D E s κ => binC u (.i .i64 3) 3 .lss P s (fun v0 s => κ (X23.mk m a b c d f g h i l n o p r t u v0 y z A B C D E) s)) x s κ
theorem r97x3ok : RgOk P false o97x3 T23 r97x3 := fun _ _ x _ _ => by cases x; kernel_rfl
def o97x4 : Array Oper := regO (pth [1, 1, 0, 1, 0, 0, 1, 1, 0, 0, 0] c97v)
def r97x4 : RG X23 := fun call yl x s κ => X23.rec (motive := fun _ => MO X23) (fun m a b c d f g h i l n o p r t u w y z A B C D E s κ => natK u fun j => V.iff (Nat.ble (Nat.succ j) 3) (prV t false (Nat.mul j 1) 1 s (fun v0 s => κ (X23.mk m a b c d f v0 h i l n o p r t u w v0 z A B C D E) s))) x s κ
theorem r97x4ok : RgOk P false o97x4 T23 r97x4 := fun _ _ x _ _ => by cases x; kernel_rfl
def o97x5 : Array Oper := regO (pth [1, 1, 0, 1, 0, 0, 1, 1, 0, 0, 1] c97v)
def r97x5 : RG X23 := fun call yl x s κ => X23.rec (motive := fun _ => MO X23) (fun m a b c d f g h i l n o p r t u w y z A B C D E s κ => call 125 [g] s (fun v0 s => appendC P 57 57 d v0 s (fun v1 s => κ (X23.mk m a b c v1 f g h i l n o p r t u w y d g v0 v1 D E) s))) x s κ
theorem r97x5ok : RgOk P false o97x5 T23 r97x5 := fun _ _ x _ _ => by cases x; kernel_rfl
def o97x6 : Array Oper := regO (pth [1, 1, 0, 1, 0, 0, 1, 1, 1] c97v)
def r97x6 : RG X23 := fun call yl x s κ => X23.rec (motive := fun _ => MO X23) (fun m a b c d f g h i l n o p r t u w y z A B C D E s κ => binC u (.i .i64 1) 3 .add P s (fun v0 s => κ (X23.mk m a b c d f g h i l n o p r t v0 w y z A B C v0 E) s)) x s κ
theorem r97x6ok : RgOk P false o97x6 T23 r97x6 := fun _ _ x _ _ => by cases x; kernel_rfl
def o97x7 : Array Oper := regO (pth [1, 1, 1, 0] c97v)
def r97x7 : RG X23 := fun call yl x s κ => X23.rec (motive := fun _ => MO X23) (fun m a b c d f g h i l n o p r t u w y z A B C D E s κ => κ (X23.mk m a b d d f g h i l n o p r t u w y z A B C D d) s) x s κ
theorem r97x7ok : RgOk P false o97x7 T23 r97x7 := fun _ _ x _ _ => by cases x; kernel_rfl
def S97 : SF X23 := (seqS (regS P t0.fq r97x0) (seqS (regS P t0.fq r97x1) (seqS (seqS (regS P t0.fq r97x2) (blkS 0 (loopS (seqS (regS P t0.fq r97x3) (seqS (condS (fun x => X23.rec (motive := fun _ => FV) (fun _ _ _ _ _ _ _ _ _ _ _ _ _ _ _ _ z _ _ _ _ _ _ _ => z) x) skipS (exitS 0)) (seqS (blkS 1 (seqS (regS P t0.fq r97x4) (regS P t0.fq r97x5))) (regS P t0.fq r97x6))))))) (seqS (regS P t0.fq r97x7) retS))))
theorem S97ok : Sh P t0.fq T23 c97v S97 := by
  have e : c97v = (.seq (.region 0 o97x0 false) (.seq (.region 1 o97x1 false) (.seq (.seq (.region 2 o97x2 false) (.block 0 (.loop (.seq (.region 3 o97x3 false) (.seq (.cond (.tmp 15) .skip (.exit 0)) (.seq (.block 1 (.seq (.region 4 o97x4 false) (.region 5 o97x5 false))) (.region 6 o97x6 false))))))) (.seq (.region 7 o97x7 false) .ret)))) := by kernel_rfl
  rw [e]
  exact (sh_seq (sh_reg r97x0ok) (sh_seq (sh_reg r97x1ok) (sh_seq (sh_seq (sh_reg r97x2ok) (sh_blk 0 (sh_loop (sh_seq (sh_reg r97x3ok) (sh_seq (sh_cond (fun x => by cases x; rfl) sh_skip (sh_exit 0)) (sh_seq (sh_blk 1 (sh_seq (sh_reg r97x4ok) (sh_reg r97x5ok))) (sh_reg r97x6ok))))))) (sh_seq (sh_reg r97x7ok) sh_ret))))
def A97 : List FV → Option X23 := fun l => match l with
  | [a] => some (X23.mk [] a .e .e .e .e .e .e .e .e .e .e .e .e .e .e .e .e .e .e .e .e .e .e)
  | _ => none
def L97 : LQ := shal P T23 S97 [.tmp 2] 4000 A97
def E97 : LA := evCall P t0.fa 4000 97
theorem G97 : Good P 97 L97 E97 := good_shal all0 (by kernel_rfl) (show FT P 97 = some (c97v, 23, [.tmp 2]) by kernel_rfl) S97ok (fun l x h => by
    unfold A97 at h
    split at h
    · cases h; exact ⟨by kernel_rfl, by kernel_rfl⟩
    · cases h) 4000
def c116v : Code := bodyOf P 116
def o116x0 : Array Oper := regO (pth [0] c116v)
def r116x0 : RG X9 := fun call yl x s κ => X9.rec (motive := fun _ => MO X9) (fun m a b c d f g h i l s κ => κ (X9.mk m a b (.b false) d f g h i l) s) x s κ
theorem r116x0ok : RgOk P false o116x0 T9 r116x0 := fun _ _ x _ _ => by cases x; kernel_rfl
def o116x1 : Array Oper := regO (pth [1, 0] c116v)
def r116x1 : RG X9 := fun call yl x s κ => X9.rec (motive := fun _ => MO X9) (fun m a b c d f g h i l s κ => binC (.i .i64 0) a 3 .leq P s (fun v0 s => bnk (fun κ1 => wantC v0 true (κ1 a s) (κ1 .e s)) (fun v1 s => bnk (fun κ1 => wantC v0 true (binC v1 (.i .i64 16) 3 .lss P s (κ1)) (κ1 .e s)) (fun v2 s => bnk (fun κ0 => condB v0 (κ0 v2 s) (κ0 (.b false) s)) (fun v3 s => κ (X9.mk m a b v3 a v0 v0 v1 v2 v3) s))))) x s κ
theorem r116x1ok : RgOk P false o116x1 T9 r116x1 := fun _ _ x _ _ => by cases x; kernel_rfl
def S116 : SF X9 := (seqS (regS P t0.fq r116x0) (seqS (regS P t0.fq r116x1) retS))
theorem S116ok : Sh P t0.fq T9 c116v S116 := by
  have e : c116v = (.seq (.region 0 o116x0 false) (.seq (.region 1 o116x1 false) .ret)) := by kernel_rfl
  rw [e]
  exact (sh_seq (sh_reg r116x0ok) (sh_seq (sh_reg r116x1ok) sh_ret))
def A116 : List FV → Option X9 := fun l => match l with
  | [a] => some (X9.mk [] a .e .e .e .e .e .e .e .e)
  | _ => none
def L116 : LQ := shal P T9 S116 [.tmp 2] 4000 A116
def E116 : LA := evCall P t0.fa 4000 116
theorem G116 : Good P 116 L116 E116 := good_shal all0 (by kernel_rfl) (show FT P 116 = some (c116v, 9, [.tmp 2]) by kernel_rfl) S116ok (fun l x h => by
    unfold A116 at h
    split at h
    · cases h; exact ⟨by kernel_rfl, by kernel_rfl⟩
    · cases h) 4000
def c123v : Code := bodyOf P 123
def o123x0 : Array Oper := regO (pth [] c123v)
def r123x0 : RG X15 := fun call yl x s κ => X15.rec (motive := fun _ => MO X15) (fun m a b c d f g h i l n o p r t u s κ => (fun qv0 => sandS (fun s κ1 => nilC a s (κ1)) s (fun qv1 v2 s => sandS (fun s κ1 => ptrK v2 0 s (κ1)) s (fun qv3 v4 s => sandS (fun s κ1 => ldV v4 false 1 s (κ1)) s (fun qv5 v6 s => sandS (fun s κ1 => nilC v6 s (κ1)) s (fun qv7 v8 s => sandS (fun s κ1 => ptrK v8 30 s (κ1)) s (fun qv9 v10 s => sandS (fun s κ1 => sliceC P 51 v10 none none none s (κ1)) s (fun qv11 v12 s => (fun qv13 => sandS (fun s κ1 => nilC a s (κ1)) s (fun qv14 v15 s => sandS (fun s κ1 => ptrK v15 1 s (κ1)) s (fun qv16 v17 s => sandS (fun s κ1 => ldV v17 false 1 s (κ1)) s (fun qv18 v19 s => sandS (fun s κ1 => callV v19 [(.i .i64 32)] call yl s (κ1)) s (fun qv20 v21 s => sandS (fun s κ1 => copyC P 57 v12 v21 s (κ1)) s (fun qv22 v23 s => V.iff (dynA [] [qv0, qv1, qv3, qv5, qv7, qv9, qv11, qv13, qv14, qv16, qv18, qv20, qv22] [[], [false], [false, false], [false, false, false], [false, false, false, false], [false, false, false, false, false], [false, false, false, false, false, false], [true, true, true, true, true, true, true], [true, true, true, true, true, true, true, false], [true, true, true, true, true, true, true, false, false], [true, true, true, true, true, true, true, false, false, false], [true, true, true, true, true, true, true, false, false, false, false], [false, false, false, false, false, false, false, false, false, false, false, false]]) (κ (X15.mk m a b a v2 v4 v6 v8 v10 v12 a v15 v17 v19 v21 v23) s))))))) (qz s)))))))) (qz s)) x s κ
theorem r123x0ok : RgOk P true o123x0 T15 r123x0 := fun _ _ x _ _ => by cases x; kernel_rfl
def S123 : SF X15 := (regS P t0.fq r123x0)
theorem S123ok : Sh P t0.fq T15 c123v S123 := by
  have e : c123v = (.region 0 o123x0 true) := by kernel_rfl
  rw [e]
  exact (sh_reg r123x0ok)
def A123 : List FV → Option X15 := fun l => match l with
  | [a] => some (X15.mk [] a .e .e .e .e .e .e .e .e .e .e .e .e .e .e)
  | _ => none
def L123 : LQ := shal P T15 S123 [] 4000 A123
def E123 : LA := evCall P t0.fa 4000 123
theorem G123 : Good P 123 L123 E123 := good_shal all0 (by kernel_rfl) (show FT P 123 = some (c123v, 15, []) by kernel_rfl) S123ok (fun l x h => by
    unfold A123 at h
    split at h
    · cases h; exact ⟨by kernel_rfl, by kernel_rfl⟩
    · cases h) 4000
inductive X10 where
  | mk (m : List Nat) (a b c d f g h i l n : FV)
def T10 (x : X10) : FF := X10.rec (motive := fun _ => FF) (fun m a b c d f g h i l n => ⟨(.n a (.n b (.n g .e .e .e .e) (.n n .e .e .e .e) .e .e) (.n c (.n h .e .e .e .e) .e .e .e) (.n d (.n i .e .e .e .e) .e .e .e) (.n f (.n l .e .e .e .e) .e .e .e)), 10, m⟩) x
def c124v : Code := bodyOf P 124
def o124x0 : Array Oper := regO (pth [0] c124v)
def r124x0 : RG X10 := fun call yl x s κ => X10.rec (motive := fun _ => MO X10) (fun m a b c d f g h i l n s κ => κ (X10.mk m a b c d (.b false) g h i l n) s) x s κ
theorem r124x0ok : RgOk P false o124x0 T10 r124x0 := fun _ _ x _ _ => by cases x; kernel_rfl
def o124x1 : Array Oper := regO (pth [1, 0] c124v)
def r124x1 : RG X10 := fun call yl x s κ => X10.rec (motive := fun _ => MO X10) (fun m a b c d f g h i l n s κ => cvT P 57 9 a s (fun v0 s => cvT P 57 9 b s (fun v1 s => binC v0 v1 9 .eql P s (fun v2 s => κ (X10.mk m a b c d v2 a v0 b v1 v2) s)))) x s κ
theorem r124x1ok : RgOk P false o124x1 T10 r124x1 := fun _ _ x _ _ => by cases x; kernel_rfl
def S124 : SF X10 := (seqS (regS P t0.fq r124x0) (seqS (regS P t0.fq r124x1) retS))
theorem S124ok : Sh P t0.fq T10 c124v S124 := by
  have e : c124v = (.seq (.region 0 o124x0 false) (.seq (.region 1 o124x1 false) .ret)) := by kernel_rfl
  rw [e]
  exact (sh_seq (sh_reg r124x0ok) (sh_seq (sh_reg r124x1ok) sh_ret))
def A124 : List FV → Option X10 := fun l => match l with
  | [a, b] => some (X10.mk [] a b .e .e .e .e .e .e .e .e)
  | _ => none
def L124 : LQ := shal P T10 S124 [.tmp 4] 4000 A124
def E124 : LA := evCall P t0.fa 4000 124
theorem G124 : Good P 124 L124 E124 := good_shal all0 (by kernel_rfl) (show FT P 124 = some (c124v, 10, [.tmp 4]) by kernel_rfl) S124ok (fun l x h => by
    unfold A124 at h
    split at h
    · cases h; exact ⟨by kernel_rfl, by kernel_rfl⟩
    · cases h) 4000
inductive X53 where
  | mk (m : List Nat) (a b c d f g h i l n o p r t u w y z A B C D E F G H I J K L M N O Q R S T U W Y Z a1 b1 c1 d1 f1 g1 h1 i1 l1 n1 o1 p1 : FV)
def T53 (x : X53) : FF := X53.rec (motive := fun _ => FF) (fun m a b c d f g h i l n o p r t u w y z A B C D E F G H I J K L M N O Q R S T U W Y Z a1 b1 c1 d1 f1 g1 h1 i1 l1 n1 o1 p1 => ⟨(.n a (.n b (.n g (.n D .e .e .e .e) (.n U .e .e .e .e) .e .e) (.n n (.n H .e .e .e .e) (.n a1 .e .e .e .e) .e .e) (.n t (.n L .e .e .e .e) (.n f1 .e .e .e .e) .e .e) (.n z (.n Q .e .e .e .e) (.n l1 .e .e .e .e) .e .e)) (.n c (.n h (.n E .e .e .e .e) (.n W .e .e .e .e) .e .e) (.n o (.n I .e .e .e .e) (.n b1 .e .e .e .e) .e .e) (.n u (.n M .e .e .e .e) (.n g1 .e .e .e .e) .e .e) (.n A (.n R .e .e .e .e) (.n n1 .e .e .e .e) .e .e)) (.n d (.n i (.n F .e .e .e .e) (.n Y .e .e .e .e) .e .e) (.n p (.n J .e .e .e .e) (.n c1 .e .e .e .e) .e .e) (.n w (.n N .e .e .e .e) (.n h1 .e .e .e .e) .e .e) (.n B (.n S .e .e .e .e) (.n o1 .e .e .e .e) .e .e)) (.n f (.n l (.n G .e .e .e .e) (.n Z .e .e .e .e) .e .e) (.n r (.n K .e .e .e .e) (.n d1 .e .e .e .e) .e .e) (.n y (.n O .e .e .e .e) (.n i1 .e .e .e .e) .e .e) (.n C (.n T .e .e .e .e) (.n p1 .e .e .e .e) .e .e))), 53, m⟩) x
def c138v : Code := bodyOf P 138
def o138x0 : Array Oper := regO (pth [0] c138v)
def r138x0 : RG X53 := fun call yl x s κ => X53.rec (motive := fun _ => MO X53) (fun m a b c d f g h i l n o p r t u w y z A B C D E F G H I J K L M N O Q R S T U W Y Z a1 b1 c1 d1 f1 g1 h1 i1 l1 n1 o1 p1 s κ => κ (X53.mk m a b c (.o (.sl none 0 0)) f g h i l n o p r t u w y z A B C D E F G H I J K L M N O Q R S T U W Y Z a1 b1 c1 d1 f1 g1 h1 i1 l1 n1 o1 p1) s) x s κ
theorem r138x0ok : RgOk P false o138x0 T53 r138x0 := fun _ _ x _ _ => by cases x; kernel_rfl
def o138x1 : Array Oper := regO (pth [1, 0, 0] c138v)
def r138x1 : RG X53 := fun call yl x s κ => X53.rec (motive := fun _ => MO X53) (fun m a b c d f g h i l n o p r t u w y z A B C D E F G H I J K L M N O Q R S T U W Y Z a1 b1 c1 d1 f1 g1 h1 i1 l1 n1 o1 p1 s κ => ldV b false 1 s (fun v0 s => lenC v0 P 125 s (fun v1 s => κ (X53.mk m a b c d f g h i v0 v1 (.i .i64 0) p r t u w y z A B C D E F G H I J K L M N O Q R S T U W Y Z a1 b1 c1 d1 f1 g1 h1 i1 l1 n1 o1 p1) s))) x s κ
theorem r138x1ok : RgOk P false o138x1 T53 r138x1 := fun _ _ x _ _ => by cases x; kernel_rfl
def o138x2 : Array Oper := regO (pth [1, 0, 1, 0, 0, 0] c138v)
def r138x2 : RG X53 := fun call yl x s κ => X53.rec (motive := fun _ => MO X53) (fun m a b c d f g h i l n o p r t u w y z A B C D E F G H I J K L M N O Q R S T U W Y Z a1 b1 c1 d1 f1 g1 h1 i1 l1 n1 o1 p1 s κ => binC o n 3 .lss P s (fun v0 s => κ (X53.mk m a b c d f g h i l n o v0 r t u w y z A B C D E F G H I J K L M N O Q R S T U W Y Z a1 b1 c1 d1 f1 g1 h1 i1 l1 n1 o1 p1) s)) x s κ
theorem r138x2ok : RgOk P false o138x2 T53 r138x2 := fun _ _ x _ _ => by cases x; kernel_rfl
def o138x3 : Array Oper := regO (pth [1, 0, 1, 0, 0, 1, 1, 0, 0, 0] c138v)
def r138x3 : RG X53 := fun call yl x s κ => X53.rec (motive := fun _ => MO X53) (fun m a b c d f g h i l n o p r t u w y z A B C D E F G H I J K L M N O Q R S T U W Y Z a1 b1 c1 d1 f1 g1 h1 i1 l1 n1 o1 p1 s κ => natK o fun j => iaS l j 1 s (fun v0 s => ldV v0 false 1 s (fun v1 s => κ (X53.mk m a b c d f v1 h i l n o p v0 v1 u w y z A B C D E F G H I J K L M N O Q R S T U W Y Z a1 b1 c1 d1 f1 g1 h1 i1 l1 n1 o1 p1) s))) x s κ
theorem r138x3ok : RgOk P false o138x3 T53 r138x3 := fun _ _ x _ _ => by cases x; kernel_rfl
def o138x4 : Array Oper := regO (pth [1, 0, 1, 0, 0, 1, 1, 0, 0, 1] c138v)
def r138x4 : RG X53 := fun call yl x s κ => X53.rec (motive := fun _ => MO X53) (fun m a b c d f g h i l n o p r t u w y z A B C D E F G H I J K L M N O Q R S T U W Y Z a1 b1 c1 d1 f1 g1 h1 i1 l1 n1 o1 p1 s κ => appendC P 57 57 d g s (fun v0 s => κ (X53.mk m a b c v0 f g h i l n o p r t d g v0 z A B C D E F G H I J K L M N O Q R S T U W Y Z a1 b1 c1 d1 f1 g1 h1 i1 l1 n1 o1 p1) s)) x s κ
theorem r138x4ok : RgOk P false o138x4 T53 r138x4 := fun _ _ x _ _ => by cases x; kernel_rfl
def o138x5 : Array Oper := regO (pth [1, 0, 1, 0, 0, 1, 1, 1] c138v)
def r138x5 : RG X53 := fun call yl x s κ => X53.rec (motive := fun _ => MO X53) (fun m a b c d f g h i l n o p r t u w y z A B C D E F G H I J K L M N O Q R S T U W Y Z a1 b1 c1 d1 f1 g1 h1 i1 l1 n1 o1 p1 s κ => binC o (.i .i64 1) 3 .add P s (fun v0 s => κ (X53.mk m a b c d f g h i l n v0 p r t u w y v0 A B C D E F G H I J K L M N O Q R S T U W Y Z a1 b1 c1 d1 f1 g1 h1 i1 l1 n1 o1 p1) s)) x s κ
theorem r138x5ok : RgOk P false o138x5 T53 r138x5 := fun _ _ x _ _ => by cases x; kernel_rfl
def o138x6 : Array Oper := regO (pth [1, 1, 0] c138v)
def r138x6 : RG X53 := fun call yl x s κ => X53.rec (motive := fun _ => MO X53) (fun m a b c d f g h i l n o p r t u w y z A B C D E F G H I J K L M N O Q R S T U W Y Z a1 b1 c1 d1 f1 g1 h1 i1 l1 n1 o1 p1 s κ => lenC d P 57 s (fun v0 s => cvV v0 .u64 s (fun v1 s => binC (.i .u64 8) v1 159 .mul P s (fun v2 s => κ (X53.mk m a b c d f g v2 i l n o p r t u w y z d v0 v1 v2 E F G H I J K L M N O Q R S T U W Y Z a1 b1 c1 d1 f1 g1 h1 i1 l1 n1 o1 p1) s)))) x s κ
theorem r138x6ok : RgOk P false o138x6 T53 r138x6 := fun _ _ x _ _ => by cases x; kernel_rfl
def o138x7 : Array Oper := regO (pth [1, 1, 1, 0] c138v)
def r138x7 : RG X53 := fun call yl x s κ => X53.rec (motive := fun _ => MO X53) (fun m a b c d f g h i l n o p r t u w y z A B C D E F G H I J K L M N O Q R S T U W Y Z a1 b1 c1 d1 f1 g1 h1 i1 l1 n1 o1 p1 s κ => buildSliceC P 57 1 [(0, (.i .u8 128))] s (fun v0 s => appendC P 57 57 d v0 s (fun v1 s => κ (X53.mk m a b c v1 f g h i l n o p r t u w y z A B C D d v0 v1 H I J K L M N O Q R S T U W Y Z a1 b1 c1 d1 f1 g1 h1 i1 l1 n1 o1 p1) s))) x s κ
theorem r138x7ok : RgOk P false o138x7 T53 r138x7 := fun _ _ x _ _ => by cases x; kernel_rfl
def o138x8 : Array Oper := regO (pth [1, 1, 1, 1, 0, 0, 0, 0, 0] c138v)
def r138x8 : RG X53 := fun call yl x s κ => X53.rec (motive := fun _ => MO X53) (fun m a b c d f g h i l n o p r t u w y z A B C D E F G H I J K L M N O Q R S T U W Y Z a1 b1 c1 d1 f1 g1 h1 i1 l1 n1 o1 p1 s κ => lenC d P 57 s (fun v0 s => binC v0 (.i .i64 64) 3 .rem P s (fun v1 s => binC v1 (.i .i64 56) 3 .neq P s (fun v2 s => κ (X53.mk m a b c d f g h i l n o p r t u w y z A B C D E F G d v0 v1 v2 L M N O Q R S T U W Y Z a1 b1 c1 d1 f1 g1 h1 i1 l1 n1 o1 p1) s)))) x s κ
theorem r138x8ok : RgOk P false o138x8 T53 r138x8 := fun _ _ x _ _ => by cases x; kernel_rfl
def o138x9 : Array Oper := regO (pth [1, 1, 1, 1, 0, 0, 0, 1, 0] c138v)
def r138x9 : RG X53 := fun call yl x s κ => X53.rec (motive := fun _ => MO X53) (fun m a b c d f g h i l n o p r t u w y z A B C D E F G H I J K L M N O Q R S T U W Y Z a1 b1 c1 d1 f1 g1 h1 i1 l1 n1 o1 p1 s κ => buildSliceC P 57 1 [(0, (.i .u8 0))] s (fun v0 s => appendC P 57 57 d v0 s (fun v1 s => κ (X53.mk m a b c v1 f g h i l n o p r t u w y z A B C D E F G H I J K d v0 v1 O Q R S T U W Y Z a1 b1 c1 d1 f1 g1 h1 i1 l1 n1 o1 p1) s))) x s κ
theorem r138x9ok : RgOk P false o138x9 T53 r138x9 := fun _ _ x _ _ => by cases x; kernel_rfl
def o138x10 : Array Oper := regO (pth [1, 1, 1, 1, 1, 0, 0] c138v)
def r138x10 : RG X53 := fun call yl x s κ => X53.rec (motive := fun _ => MO X53) (fun m a b c d f g h i l n o p r t u w y z A B C D E F G H I J K L M N O Q R S T U W Y Z a1 b1 c1 d1 f1 g1 h1 i1 l1 n1 o1 p1 s κ => κ (X53.mk m a b c d f g h (.i .i64 56) l n o p r t u w y z A B C D E F G H I J K L M N O Q R S T U W Y Z a1 b1 c1 d1 f1 g1 h1 i1 l1 n1 o1 p1) s) x s κ
theorem r138x10ok : RgOk P false o138x10 T53 r138x10 := fun _ _ x _ _ => by cases x; kernel_rfl
def o138x11 : Array Oper := regO (pth [1, 1, 1, 1, 1, 0, 1, 0, 0, 0, 0] c138v)
def r138x11 : RG X53 := fun call yl x s κ => X53.rec (motive := fun _ => MO X53) (fun m a b c d f g h i l n o p r t u w y z A B C D E F G H I J K L M N O Q R S T U W Y Z a1 b1 c1 d1 f1 g1 h1 i1 l1 n1 o1 p1 s κ => binC i (.i .i64 0) 3 .geq P s (fun v0 s => κ (X53.mk m a b c d f g h i l n o p r t u w y z A B C D E F G H I J K L M N i v0 R S T U W Y Z a1 b1 c1 d1 f1 g1 h1 i1 l1 n1 o1 p1) s)) x s κ
theorem r138x11ok : RgOk P false o138x11 T53 r138x11 := fun _ _ x _ _ => by cases x; kernel_rfl
def o138x12 : Array Oper := regO (pth [1, 1, 1, 1, 1, 0, 1, 0, 0, 1, 0, 0] c138v)
def r138x12 : RG X53 := fun call yl x s κ => X53.rec (motive := fun _ => MO X53) (fun m a b c d f g h i l n o p r t u w y z A B C D E F G H I J K L M N O Q R S T U W Y Z a1 b1 c1 d1 f1 g1 h1 i1 l1 n1 o1 p1 s κ => binC h i 159 .shr P s (fun v0 s => cvV v0 .u8 s (fun v1 s => buildSliceC P 57 1 [(0, v1)] s (fun v2 s => appendC P 57 57 d v2 s (fun v3 s => κ (X53.mk m a b c v3 f g h i l n o p r t u w y z A B C D E F G H I J K L M N O Q R S d h i v0 v1 v2 v3 c1 d1 f1 g1 h1 i1 l1 n1 o1 p1) s))))) x s κ
theorem r138x12ok : RgOk P false o138x12 T53 r138x12 := fun _ _ x _ _ => by cases x; kernel_rfl
def o138x13 : Array Oper := regO (pth [1, 1, 1, 1, 1, 0, 1, 0, 0, 1, 1] c138v)
def r138x13 : RG X53 := fun call yl x s κ => X53.rec (motive := fun _ => MO X53) (fun m a b c d f g h i l n o p r t u w y z A B C D E F G H I J K L M N O Q R S T U W Y Z a1 b1 c1 d1 f1 g1 h1 i1 l1 n1 o1 p1 s κ => binC i (.i .i64 8) 3 .sub P s (fun v0 s => κ (X53.mk m a b c d f g h v0 l n o p r t u w y z A B C D E F G H I J K L M N O Q i v0 T U W Y Z a1 b1 c1 d1 f1 g1 h1 i1 l1 n1 o1 p1) s)) x s κ
theorem r138x13ok : RgOk P false o138x13 T53 r138x13 := fun _ _ x _ _ => by cases x; kernel_rfl
def o138x14 : Array Oper := regO (pth [1, 1, 1, 1, 1, 1, 0, 0, 0, 0] c138v)
def r138x14 : RG X53 := fun call yl x s κ => X53.rec (motive := fun _ => MO X53) (fun m a b c d f g h i l n o p r t u w y z A B C D E F G H I J K L M N O Q R S T U W Y Z a1 b1 c1 d1 f1 g1 h1 i1 l1 n1 o1 p1 s κ => lenC d P 57 s (fun v0 s => binC v0 (.i .i64 0) 3 .gtr P s (fun v1 s => κ (X53.mk m a b c d f g h i l n o p r t u w y z A B C D E F G H I J K L M N O Q R S T U W Y Z a1 b1 d v0 v1 g1 h1 i1 l1 n1 o1 p1) s))) x s κ
theorem r138x14ok : RgOk P false o138x14 T53 r138x14 := fun _ _ x _ _ => by cases x; kernel_rfl
def o138x15 : Array Oper := regO (pth [1, 1, 1, 1, 1, 1, 0, 0, 1, 0, 0, 0] c138v)
def r138x15 : RG X53 := fun call yl x s κ => X53.rec (motive := fun _ => MO X53) (fun m a b c d f g h i l n o p r t u w y z A B C D E F G H I J K L M N O Q R S T U W Y Z a1 b1 c1 d1 f1 g1 h1 i1 l1 n1 o1 p1 s κ => sliceC P 57 d none (some (.i .i64 64)) none s (fun v0 s => callV a [v0] call yl s (fun v1 s => notC v1 s (fun v2 s => κ (X53.mk m a b c d f g h i l n o p r t u w y z A B C D E F G H I J K L M N O Q R S T U W Y Z a1 b1 c1 d1 f1 g1 h1 a d v0 v1 v2) s)))) x s κ
theorem r138x15ok : RgOk P false o138x15 T53 r138x15 := fun _ _ x _ _ => by cases x; kernel_rfl
def o138x16 : Array Oper := regO (pth [1, 1, 1, 1, 1, 1, 0, 0, 1, 1] c138v)
def r138x16 : RG X53 := fun call yl x s κ => X53.rec (motive := fun _ => MO X53) (fun m a b c d f g h i l n o p r t u w y z A B C D E F G H I J K L M N O Q R S T U W Y Z a1 b1 c1 d1 f1 g1 h1 i1 l1 n1 o1 p1 s κ => sliceC P 57 d (some (.i .i64 64)) none none s (fun v0 s => κ (X53.mk m a b c v0 f g h i l n o p r t u w y z A B C D E F G H I J K L M N O Q R S T U W Y Z a1 b1 c1 d1 f1 d v0 i1 l1 n1 o1 p1) s)) x s κ
theorem r138x16ok : RgOk P false o138x16 T53 r138x16 := fun _ _ x _ _ => by cases x; kernel_rfl
def S138 : SF X53 := (seqS (regS P t0.fq r138x0) (seqS (seqS (regS P t0.fq r138x1) (blkS 0 (loopS (seqS (regS P t0.fq r138x2) (seqS (condS (fun x => X53.rec (motive := fun _ => FV) (fun _ _ _ _ _ _ _ _ _ _ _ _ z _ _ _ _ _ _ _ _ _ _ _ _ _ _ _ _ _ _ _ _ _ _ _ _ _ _ _ _ _ _ _ _ _ _ _ _ _ _ _ _ _ => z) x) skipS (exitS 0)) (seqS (blkS 1 (seqS (regS P t0.fq r138x3) (regS P t0.fq r138x4))) (regS P t0.fq r138x5))))))) (seqS (regS P t0.fq r138x6) (seqS (regS P t0.fq r138x7) (seqS (blkS 2 (loopS (seqS (seqS (regS P t0.fq r138x8) (condS (fun x => X53.rec (motive := fun _ => FV) (fun _ _ _ _ _ _ _ _ _ _ _ _ _ _ _ _ _ _ _ _ _ _ _ _ _ _ _ _ _ z _ _ _ _ _ _ _ _ _ _ _ _ _ _ _ _ _ _ _ _ _ _ _ _ => z) x) skipS (exitS 2))) (blkS 3 (regS P t0.fq r138x9))))) (seqS (seqS (regS P t0.fq r138x10) (blkS 4 (loopS (seqS (seqS (regS P t0.fq r138x11) (condS (fun x => X53.rec (motive := fun _ => FV) (fun _ _ _ _ _ _ _ _ _ _ _ _ _ _ _ _ _ _ _ _ _ _ _ _ _ _ _ _ _ _ _ _ _ _ z _ _ _ _ _ _ _ _ _ _ _ _ _ _ _ _ _ _ _ => z) x) skipS (exitS 4))) (seqS (blkS 5 (regS P t0.fq r138x12)) (regS P t0.fq r138x13)))))) (blkS 6 (loopS (seqS (seqS (regS P t0.fq r138x14) (condS (fun x => X53.rec (motive := fun _ => FV) (fun _ _ _ _ _ _ _ _ _ _ _ _ _ _ _ _ _ _ _ _ _ _ _ _ _ _ _ _ _ _ _ _ _ _ _ _ _ _ _ _ _ _ _ _ _ _ z _ _ _ _ _ _ _ => z) x) skipS (exitS 6))) (seqS (blkS 7 (seqS (regS P t0.fq r138x15) (condS (fun x => X53.rec (motive := fun _ => FV) (fun _ _ _ _ _ _ _ _ _ _ _ _ _ _ _ _ _ _ _ _ _ _ _ _ _ _ _ _ _ _ _ _ _ _ _ _ _ _ _ _ _ _ _ _ _ _ _ _ _ _ _ _ _ z => z) x) retS skipS))) (regS P t0.fq r138x16)))))))))))
theorem S138ok : Sh P t0.fq T53 c138v S138 := by
  have e : c138v = (.seq (.region 0 o138x0 false) (.seq (.seq (.region 1 o138x1 false) (.block 0 (.loop (.seq (.region 2 o138x2 false) (.seq (.cond (.tmp 11) .skip (.exit 0)) (.seq (.block 1 (.seq (.region 3 o138x3 false) (.region 4 o138x4 false))) (.region 5 o138x5 false))))))) (.seq (.region 6 o138x6 false) (.seq (.region 7 o138x7 false) (.seq (.block 2 (.loop (.seq (.seq (.region 8 o138x8 false) (.cond (.tmp 28) .skip (.exit 2))) (.block 3 (.region 9 o138x9 false))))) (.seq (.seq (.region 10 o138x10 false) (.block 4 (.loop (.seq (.seq (.region 11 o138x11 false) (.cond (.tmp 33) .skip (.exit 4))) (.seq (.block 5 (.region 13 o138x12 false)) (.region 12 o138x13 false)))))) (.block 6 (.loop (.seq (.seq (.region 14 o138x14 false) (.cond (.tmp 45) .skip (.exit 6))) (.seq (.block 7 (.seq (.region 16 o138x15 false) (.cond (.tmp 52) .ret .skip))) (.region 15 o138x16 false))))))))))) := by kernel_rfl
  rw [e]
  exact (sh_seq (sh_reg r138x0ok) (sh_seq (sh_seq (sh_reg r138x1ok) (sh_blk 0 (sh_loop (sh_seq (sh_reg r138x2ok) (sh_seq (sh_cond (fun x => by cases x; rfl) sh_skip (sh_exit 0)) (sh_seq (sh_blk 1 (sh_seq (sh_reg r138x3ok) (sh_reg r138x4ok))) (sh_reg r138x5ok))))))) (sh_seq (sh_reg r138x6ok) (sh_seq (sh_reg r138x7ok) (sh_seq (sh_blk 2 (sh_loop (sh_seq (sh_seq (sh_reg r138x8ok) (sh_cond (fun x => by cases x; rfl) sh_skip (sh_exit 2))) (sh_blk 3 (sh_reg r138x9ok))))) (sh_seq (sh_seq (sh_reg r138x10ok) (sh_blk 4 (sh_loop (sh_seq (sh_seq (sh_reg r138x11ok) (sh_cond (fun x => by cases x; rfl) sh_skip (sh_exit 4))) (sh_seq (sh_blk 5 (sh_reg r138x12ok)) (sh_reg r138x13ok)))))) (sh_blk 6 (sh_loop (sh_seq (sh_seq (sh_reg r138x14ok) (sh_cond (fun x => by cases x; rfl) sh_skip (sh_exit 6))) (sh_seq (sh_blk 7 (sh_seq (sh_reg r138x15ok) (sh_cond (fun x => by cases x; rfl) sh_ret sh_skip))) (sh_reg r138x16ok)))))))))))
def A138 : List FV → Option X53 := fun l => match l with
  | [a, b] => some (X53.mk [] a b .e .e .e .e .e .e .e .e .e .e .e .e .e .e .e .e .e .e .e .e .e .e .e .e .e .e .e .e .e .e .e .e .e .e .e .e .e .e .e .e .e .e .e .e .e .e .e .e .e .e .e)
  | _ => none
def L138 : LQ := shal P T53 S138 [] 4000 A138
def E138 : LA := evCall P t0.fa 4000 138
theorem G138 : Good P 138 L138 E138 := good_shal all0 (by kernel_rfl) (show FT P 138 = some (c138v, 53, []) by kernel_rfl) S138ok (fun l x h => by
    unfold A138 at h
    split at h
    · cases h; exact ⟨by kernel_rfl, by kernel_rfl⟩
    · cases h) 4000
inductive X30 where
  | mk (m : List Nat) (a b c d f g h i l n o p r t u w y z A B C D E F G H I J K L : FV)
def T30 (x : X30) : FF := X30.rec (motive := fun _ => FF) (fun m a b c d f g h i l n o p r t u w y z A B C D E F G H I J K L => ⟨(.n a (.n b (.n g (.n D .e .e .e .e) .e .e .e) (.n n (.n H .e .e .e .e) .e .e .e) (.n t (.n L .e .e .e .e) .e .e .e) (.n z .e .e .e .e)) (.n c (.n h (.n E .e .e .e .e) .e .e .e) (.n o (.n I .e .e .e .e) .e .e .e) (.n u .e .e .e .e) (.n A .e .e .e .e)) (.n d (.n i (.n F .e .e .e .e) .e .e .e) (.n p (.n J .e .e .e .e) .e .e .e) (.n w .e .e .e .e) (.n B .e .e .e .e)) (.n f (.n l (.n G .e .e .e .e) .e .e .e) (.n r (.n K .e .e .e .e) .e .e .e) (.n y .e .e .e .e) (.n C .e .e .e .e))), 30, m⟩) x
def c141v : Code := bodyOf P 141
def o141x0 : Array Oper := regO (pth [0] c141v)
def r141x0 : RG X30 := fun call yl x s κ => X30.rec (motive := fun _ => MO X30) (fun m a b c d f g h i l n o p r t u w y z A B C D E F G H I J K L s κ => κ (X30.mk m a b c d (.o (.sl none 0 0)) g h i l n o p r t u w y z A B C D E F G H I J K L) s) x s κ
theorem r141x0ok : RgOk P false o141x0 T30 r141x0 := fun _ _ x _ _ => by cases x; kernel_rfl
def o141x1 : Array Oper := regO (pth [1, 0, 0] c141v)
def r141x1 : RG X30 := fun call yl x s κ => X30.rec (motive := fun _ => MO X30) (fun m a b c d f g h i l n o p r t u w y z A B C D E F G H I J K L s κ => sandS (fun s κ1 => ldV b false 1 s (κ1)) s (fun qv0 v1 s => sandS (fun s κ1 => ldV b false 1 s (κ1)) s (fun qv2 v3 s => sandS (fun s κ1 => nilC v3 s (κ1)) s (fun qv4 v5 s => sandS (fun s κ1 => ptrK v5 2 s (κ1)) s (fun qv6 v7 s => sandS (fun s κ1 => ldV v7 false 1 s (κ1)) s (fun qv8 v9 s => (fun qv10 => sandS (fun s κ1 => bnk (fun κ1 => wantC v9 false (κ1 a s) (κ1 .e s)) κ1) s (fun qv11 v12 s => sandS (fun s κ1 => bnk (fun κ1 => wantC v9 false (ldV c false 1 s (κ1)) (κ1 .e s)) κ1) s (fun qv13 v14 s => sandS (fun s κ1 => bnk (fun κ1 => wantC v9 false (lenC v14 P 57 s (κ1)) (κ1 .e s)) κ1) s (fun qv15 v16 s => sandS (fun s κ1 => bnk (fun κ1 => wantC v9 false (binC v12 v16 3 .gtr P s (κ1)) (κ1 .e s)) κ1) s (fun qv17 v18 s => sandS (fun s κ1 => bnk (fun κ0 => condB v9 (κ0 (.b true) s) (κ0 v18 s)) (κ1)) s (fun qv19 v20 s => sandS (fun s κ1 => nilC v1 s (κ1)) s (fun qv21 v22 s => sandS (fun s κ1 => ptrK v22 2 s (κ1)) s (fun qv23 v24 s => sandS (fun s κ1 => stA v24 v20 1 s (κ1)) s (fun qv25 v26 s => V.iff (dynA [] [qv0, qv2, qv4, qv6, qv8, qv10, qv11, qv13, qv15, qv17, qv19, qv21, qv23, qv25] [[], [true], [true, false], [true, false, false], [true, false, false, false], [true, false, false, false, false], [true, false, false, false, false, false], [true, false, false, false, false, false, true], [true, false, false, false, false, false, true, false], [true, false, false, false, false, false, false, false, false], [true, false, false, false, false, false, false, false, false, false], [false, false, false, false, false, false, false, false, false, false, false], [false, false, false, false, false, false, false, false, false, false, false, false], [false, false, false, false, false, false, false, false, false, false, false, false, false]]) (κ (X30.mk m a b c d f g v1 v3 v5 v7 v9 v9 v12 v14 v16 v18 v20 v22 v24 B C D E F G H I J K L) s)))))))))) (qz s))))))) x s κ
theorem r141x1ok : RgOk P true o141x1 T30 r141x1 := fun _ _ x _ _ => by cases x; kernel_rfl
def o141x2 : Array Oper := regO (pth [1, 0, 1, 0] c141v)
def r141x2 : RG X30 := fun call yl x s κ => X30.rec (motive := fun _ => MO X30) (fun m a b c d f g h i l n o p r t u w y z A B C D E F G H I J K L s κ => ldV b false 1 s (fun v0 s => nilC v0 s (fun v1 s => ptrK v1 2 s (fun v2 s => ldV v2 false 1 s (fun v3 s => κ (X30.mk m a b c d f g h i l n o p r t u w y z A v0 v1 v2 v3 F G H I J K L) s))))) x s κ
theorem r141x2ok : RgOk P false o141x2 T30 r141x2 := fun _ _ x _ _ => by cases x; kernel_rfl
def o141x3 : Array Oper := regO (pth [1, 0, 1, 1, 0, 0] c141v)
def r141x3 : RG X30 := fun call yl x s κ => X30.rec (motive := fun _ => MO X30) (fun m a b c d f g h i l n o p r t u w y z A B C D E F G H I J K L s κ => κ (X30.mk m a b c d (.o (.sl none 0 0)) g h i l n o p r t u w y z A B C D E F G H I J K L) s) x s κ
theorem r141x3ok : RgOk P false o141x3 T30 r141x3 := fun _ _ x _ _ => by cases x; kernel_rfl
def o141x4 : Array Oper := regO (pth [1, 1, 0] c141v)
def r141x4 : RG X30 := fun call yl x s κ => X30.rec (motive := fun _ => MO X30) (fun m a b c d f g h i l n o p r t u w y z A B C D E F G H I J K L s κ => ldV c false 1 s (fun v0 s => sliceC P 57 v0 none (some a) none s (fun v1 s => κ (X30.mk m a b c d f v1 h i l n o p r t u w y z A B C D E v0 a v1 I J K L) s))) x s κ
theorem r141x4ok : RgOk P false o141x4 T30 r141x4 := fun _ _ x _ _ => by cases x; kernel_rfl
def o141x5 : Array Oper := regO (pth [1, 1, 1, 0] c141v)
def r141x5 : RG X30 := fun call yl x s κ => X30.rec (motive := fun _ => MO X30) (fun m a b c d f g h i l n o p r t u w y z A B C D E F G H I J K L s κ => ldV c false 1 s (fun v0 s => sliceC P 57 v0 (some a) none none s (fun v1 s => stA c v1 1 s (fun _ s => κ (X30.mk m a b c d f g h i l n o p r t u w y z A B C D E F G H v0 a v1 L) s)))) x s κ
theorem r141x5ok : RgOk P false o141x5 T30 r141x5 := fun _ _ x _ _ => by cases x; kernel_rfl
def o141x6 : Array Oper := regO (pth [1, 1, 1, 1, 0] c141v)
def r141x6 : RG X30 := fun call yl x s κ => X30.rec (motive := fun _ => MO X30) (fun m a b c d f g h i l n o p r t u w y z A B C D E F G H I J K L s κ => κ (X30.mk m a b c d g g h i l n o p r t u w y z A B C D E F G H I J K g) s) x s κ
theorem r141x6ok : RgOk P false o141x6 T30 r141x6 := fun _ _ x _ _ => by cases x; kernel_rfl
def S141 : SF X30 := (seqS (regS P t0.fq r141x0) (seqS (seqS (regS P t0.fq r141x1) (seqS (regS P t0.fq r141x2) (condS (fun x => X30.rec (motive := fun _ => FV) (fun _ _ _ _ _ _ _ _ _ _ _ _ _ _ _ _ _ _ _ _ _ _ _ z _ _ _ _ _ _ _ => z) x) (seqS (regS P t0.fq r141x3) retS) skipS))) (seqS (regS P t0.fq r141x4) (seqS (regS P t0.fq r141x5) (seqS (regS P t0.fq r141x6) retS)))))
theorem S141ok : Sh P t0.fq T30 c141v S141 := by
  have e : c141v = (.seq (.region 0 o141x0 false) (.seq (.seq (.region 1 o141x1 true) (.seq (.region 2 o141x2 false) (.cond (.tmp 22) (.seq (.region 3 o141x3 false) .ret) .skip))) (.seq (.region 4 o141x4 false) (.seq (.region 5 o141x5 false) (.seq (.region 6 o141x6 false) .ret))))) := by kernel_rfl
  rw [e]
  exact (sh_seq (sh_reg r141x0ok) (sh_seq (sh_seq (sh_reg r141x1ok) (sh_seq (sh_reg r141x2ok) (sh_cond (fun x => by cases x; rfl) (sh_seq (sh_reg r141x3ok) sh_ret) sh_skip))) (sh_seq (sh_reg r141x4ok) (sh_seq (sh_reg r141x5ok) (sh_seq (sh_reg r141x6ok) sh_ret)))))
def A141 : List FV → Option X30 := fun l => match l with
  | [a, b, c] => some (X30.mk [] a b c .e .e .e .e .e .e .e .e .e .e .e .e .e .e .e .e .e .e .e .e .e .e .e .e .e .e .e)
  | _ => none
def L141 : LQ := shal P T30 S141 [.tmp 4] 4000 A141
def E141 : LA := evCall P t0.fa 4000 141
theorem G141 : Good P 141 L141 E141 := good_shal all0 (by kernel_rfl) (show FT P 141 = some (c141v, 30, [.tmp 4]) by kernel_rfl) S141ok (fun l x h => by
    unfold A141 at h
    split at h
    · cases h; exact ⟨by kernel_rfl, by kernel_rfl⟩
    · cases h) 4000
def c142v : Code := bodyOf P 142
def o142x0 : Array Oper := regO (pth [0] c142v)
def r142x0 : RG X13 := fun call yl x s κ => X13.rec (motive := fun _ => MO X13) (fun m a b c d f g h i l n o p r s κ => κ (X13.mk m a b (.b false) d f g h i l n o p r) s) x s κ
theorem r142x0ok : RgOk P false o142x0 T13 r142x0 := fun _ _ x _ _ => by cases x; kernel_rfl
def o142x1 : Array Oper := regO (pth [1, 0] c142v)
def r142x1 : RG X13 := fun call yl x s κ => X13.rec (motive := fun _ => MO X13) (fun m a b c d f g h i l n o p r s κ => ldV a false 1 s (fun v0 s => nilC v0 s (fun v1 s => ptrK v1 2 s (fun v2 s => ldV v2 false 1 s (fun v3 s => notC v3 s (fun v4 s => bnk (fun κ1 => wantC v4 true (ldV b false 1 s (κ1)) (κ1 .e s)) (fun v5 s => bnk (fun κ1 => wantC v4 true (lenC v5 P 57 s (κ1)) (κ1 .e s)) (fun v6 s => bnk (fun κ1 => wantC v4 true (binC v6 (.i .i64 0) 3 .eql P s (κ1)) (κ1 .e s)) (fun v7 s => bnk (fun κ0 => condB v4 (κ0 v7 s) (κ0 (.b false) s)) (fun v8 s => κ (X13.mk m a b v8 v0 v1 v2 v3 v4 v4 v5 v6 v7 v8) s)))))))))) x s κ
theorem r142x1ok : RgOk P false o142x1 T13 r142x1 := fun _ _ x _ _ => by cases x; kernel_rfl
def S142 : SF X13 := (seqS (regS P t0.fq r142x0) (seqS (regS P t0.fq r142x1) retS))
theorem S142ok : Sh P t0.fq T13 c142v S142 := by
  have e : c142v = (.seq (.region 0 o142x0 false) (.seq (.region 1 o142x1 false) .ret)) := by kernel_rfl
  rw [e]
  exact (sh_seq (sh_reg r142x0ok) (sh_seq (sh_reg r142x1ok) sh_ret))
def A142 : List FV → Option X13 := fun l => match l with
  | [a, b] => some (X13.mk [] a b .e .e .e .e .e .e .e .e .e .e .e)
  | _ => none
def L142 : LQ := shal P T13 S142 [.tmp 2] 4000 A142
def E142 : LA := evCall P t0.fa 4000 142
theorem G142 : Good P 142 L142 E142 := good_shal all0 (by kernel_rfl) (show FT P 142 = some (c142v, 13, [.tmp 2]) by kernel_rfl) S142ok (fun l x h => by
    unfold A142 at h
    split at h
    · cases h; exact ⟨by kernel_rfl, by kernel_rfl⟩
    · cases h) 4000
def c147v : Code := bodyOf P 147
def o147x0 : Array Oper := regO (pth [0] c147v)
def r147x0 : RG X19 := fun call yl x s κ => X19.rec (motive := fun _ => MO X19) (fun m a b c d f g h i l n o p r t u w y z A s κ => ldV b false 1 s (fun v0 s => lenC v0 P 57 s (fun v1 s => binC v1 (.i .i64 1) 3 .sub P s (fun v2 s => κ (X19.mk m a b c v2 v0 v1 v2 i l n o p r t u w y z A) s)))) x s κ
theorem r147x0ok : RgOk P false o147x0 T19 r147x0 := fun _ _ x _ _ => by cases x; kernel_rfl
def o147x1 : Array Oper := regO (pth [1, 0, 0, 0, 0] c147v)
def r147x1 : RG X19 := fun call yl x s κ => X19.rec (motive := fun _ => MO X19) (fun m a b c d f g h i l n o p r t u w y z A s κ => binC d (.i .i64 0) 3 .geq P s (fun v0 s => κ (X19.mk m a b c d f g h d v0 n o p r t u w y z A) s)) x s κ
theorem r147x1ok : RgOk P false o147x1 T19 r147x1 := fun _ _ x _ _ => by cases x; kernel_rfl
def o147x2 : Array Oper := regO (pth [1, 0, 0, 1, 0, 0, 0] c147v)
def r147x2 : RG X19 := fun call yl x s κ => X19.rec (motive := fun _ => MO X19) (fun m a b c d f g h i l n o p r t u w y z A s κ => ldV b false 1 s (fun v0 s => natK d fun j => iaS v0 j 1 s (fun v1 s => ldV v1 false 1 s (fun v2 s => callV a [d, v2] call yl s (fun v3 s => notC v3 s (fun v4 s => κ (X19.mk m a b c d f g h i l n o a d v0 d v1 v2 v3 v4) s)))))) x s κ
theorem r147x2ok : RgOk P false o147x2 T19 r147x2 := fun _ _ x _ _ => by cases x; kernel_rfl
def o147x3 : Array Oper := regO (pth [1, 0, 0, 1, 1] c147v)
def r147x3 : RG X19 := fun call yl x s κ => X19.rec (motive := fun _ => MO X19) (fun m a b c d f g h i l n o p r t u w y z A s κ => binC d (.i .i64 1) 3 .sub P s (fun v0 s => κ (X19.mk m a b c v0 f g h i l d v0 p r t u w y z A) s)) x s κ
theorem r147x3ok : RgOk P false o147x3 T19 r147x3 := fun _ _ x _ _ => by cases x; kernel_rfl
def S147 : SF X19 := (seqS (regS P t0.fq r147x0) (blkS 0 (loopS (seqS (seqS (regS P t0.fq r147x1) (condS (fun x => X19.rec (motive := fun _ => FV) (fun _ _ _ _ _ _ _ _ _ z _ _ _ _ _ _ _ _ _ _ => z) x) skipS (exitS 0))) (seqS (blkS 1 (seqS (regS P t0.fq r147x2) (condS (fun x => X19.rec (motive := fun _ => FV) (fun _ _ _ _ _ _ _ _ _ _ _ _ _ _ _ _ _ _ _ z => z) x) retS skipS))) (regS P t0.fq r147x3))))))
theorem S147ok : Sh P t0.fq T19 c147v S147 := by
  have e : c147v = (.seq (.region 0 o147x0 false) (.block 0 (.loop (.seq (.seq (.region 1 o147x1 false) (.cond (.tmp 8) .skip (.exit 0))) (.seq (.block 1 (.seq (.region 3 o147x2 false) (.cond (.tmp 18) .ret .skip))) (.region 2 o147x3 false)))))) := by kernel_rfl
  rw [e]
  exact (sh_seq (sh_reg r147x0ok) (sh_blk 0 (sh_loop (sh_seq (sh_seq (sh_reg r147x1ok) (sh_cond (fun x => by cases x; rfl) sh_skip (sh_exit 0))) (sh_seq (sh_blk 1 (sh_seq (sh_reg r147x2ok) (sh_cond (fun x => by cases x; rfl) sh_ret sh_skip))) (sh_reg r147x3ok))))))
def A147 : List FV → Option X19 := fun l => match l with
  | [a, b] => some (X19.mk [] a b .e .e .e .e .e .e .e .e .e .e .e .e .e .e .e .e .e)
  | _ => none
def L147 : LQ := shal P T19 S147 [] 4000 A147
def E147 : LA := evCall P t0.fa 4000 147
theorem G147 : Good P 147 L147 E147 := good_shal all0 (by kernel_rfl) (show FT P 147 = some (c147v, 19, []) by kernel_rfl) S147ok (fun l x h => by
    unfold A147 at h
    split at h
    · cases h; exact ⟨by kernel_rfl, by kernel_rfl⟩
    · cases h) 4000
def t1 : LT := (.n 76 L76 E76 (.n 46 L46 E46 (.n 39 L39 E39 (.n 27 L27 E27 (.n 21 L21 E21 .e .e) (.n 32 L32 E32 .e .e)) (.n 42 L42 E42 (.n 40 L40 E40 .e .e) (.n 43 L43 E43 .e .e))) (.n 67 L67 E67 (.n 60 L60 E60 (.n 56 L56 E56 .e .e) (.n 66 L66 E66 .e .e)) (.n 72 L72 E72 (.n 68 L68 E68 .e .e) (.n 73 L73 E73 .e .e)))) (.n 123 L123 E123 (.n 96 L96 E96 (.n 91 L91 E91 (.n 86 L86 E86 .e .e) (.n 95 L95 E95 .e .e)) (.n 115 L115 E115 (.n 97 L97 E97 .e .e) (.n 116 L116 E116 .e .e))) (.n 141 L141 E141 (.n 125 L125 E125 (.n 124 L124 E124 .e .e) (.n 138 L138 E138 .e .e)) (.n 147 L147 E147 (.n 142 L142 E142 .e .e) .e))))
theorem all1 : t1.all (Good P) := ⟨G76, ⟨G46, ⟨G39, ⟨G27, ⟨G21, trivial, trivial⟩, ⟨G32, trivial, trivial⟩⟩, ⟨G42, ⟨G40, trivial, trivial⟩, ⟨G43, trivial, trivial⟩⟩⟩, ⟨G67, ⟨G60, ⟨G56, trivial, trivial⟩, ⟨G66, trivial, trivial⟩⟩, ⟨G72, ⟨G68, trivial, trivial⟩, ⟨G73, trivial, trivial⟩⟩⟩⟩, ⟨G123, ⟨G96, ⟨G91, ⟨G86, trivial, trivial⟩, ⟨G95, trivial, trivial⟩⟩, ⟨G115, ⟨G97, trivial, trivial⟩, ⟨G116, trivial, trivial⟩⟩⟩, ⟨G141, ⟨G125, ⟨G124, trivial, trivial⟩, ⟨G138, trivial, trivial⟩⟩, ⟨G147, ⟨G142, trivial, trivial⟩, trivial⟩⟩⟩⟩
end
end V
end Go.CE
