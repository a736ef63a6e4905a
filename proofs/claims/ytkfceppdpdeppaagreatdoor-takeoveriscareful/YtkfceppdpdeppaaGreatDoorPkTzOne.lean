/-
  The first tree of laws: the digest's step and the reference's.
-/
import Derived.Test.YtkfceppdpdeppaaGreatDoorPkStep
set_option linter.unusedSectionVars false
set_option linter.constructorNameAsVariable false
set_option linter.unusedVariables false
set_option linter.unusedSimpArgs false
namespace Go.CE
namespace V
variable [Sym] [SymOk]
noncomputable def P : Program := Go.Proofs.Tryz.prog
noncomputable def L69 : LQ := stepQ
noncomputable def E69 : LA := stepE
theorem G69 : Good P 69 L69 E69 := step_good
noncomputable def L109 : LQ := addQ
noncomputable def E109 : LA := addE
theorem G109 : Good P 109 L109 E109 := add_good
noncomputable def t0 : LT := .n 69 L69 E69 .e (.n 109 L109 E109 .e .e)
theorem all0 : t0.all (Good P) := ⟨G69, trivial, G109, trivial, trivial⟩
end V
end Go.CE
namespace Go.CE
namespace V
set_option maxRecDepth 100000
noncomputable section
variable [Sym] [SymOk]
inductive X24 where
  | mk (m : List Nat) (a b c d f g h i l n o p r t u w y z A B C D E F : FV)
def T24 (x : X24) : FF := X24.rec (motive := fun _ => FF) (fun m a b c d f g h i l n o p r t u w y z A B C D E F => ⟨(.n a (.n b (.n g (.n D .e .e .e .e) .e .e .e) (.n n .e .e .e .e) (.n t .e .e .e .e) (.n z .e .e .e .e)) (.n c (.n h (.n E .e .e .e .e) .e .e .e) (.n o .e .e .e .e) (.n u .e .e .e .e) (.n A .e .e .e .e)) (.n d (.n i (.n F .e .e .e .e) .e .e .e) (.n p .e .e .e .e) (.n w .e .e .e .e) (.n B .e .e .e .e)) (.n f (.n l .e .e .e .e) (.n r .e .e .e .e) (.n y .e .e .e .e) (.n C .e .e .e .e))), 24, m⟩) x
def c5v : Code := bodyOf P 5
def o5x0 : Array Oper := regO (pth [0] c5v)
def r5x0 : RG X24 := fun call yl x s κ => X24.rec (motive := fun _ => MO X24) (fun m a b c d f g h i l n o p r t u w y z A B C D E F s κ => allocC P 26 s (fun v0 s => κ (X24.mk m a b c d f g v0 i l n o p r t u w y z A B C D E F) s)) x s κ
theorem r5x0ok : RgOk P false o5x0 T24 r5x0 := fun _ _ x _ _ => by cases x; kernel_rfl
def o5x1 : Array Oper := regO (pth [1, 0] c5v)
def r5x1 : RG X24 := fun call yl x s κ => X24.rec (motive := fun _ => MO X24) (fun m a b c d f g h i l n o p r t u w y z A B C D E F s κ => buildC P 26 [(0, b), (1, (.i .i64 4)), (3, (.i .i64 90)), (4, c)] s (fun v0 s => allocC P 26 s (fun v1 s => stA v1 v0 7 s (fun _ s => κ (X24.mk m a b c d f g h v1 l b c v0 r t u w y z A B C D E F) s)))) x s κ
theorem r5x1ok : RgOk P false o5x1 T24 r5x1 := fun _ _ x _ _ => by cases x; kernel_rfl
def o5x2 : Array Oper := regO (pth [1, 1, 0, 0] c5v)
def r5x2 : RG X24 := fun call yl x s κ => X24.rec (motive := fun _ => MO X24) (fun m a b c d f g h i l n o p r t u w y z A B C D E F s κ => κ (X24.mk m a b c d f g h i (.i .i64 1) n o p r t u w y z A B C D E F) s) x s κ
theorem r5x2ok : RgOk P false o5x2 T24 r5x2 := fun _ _ x _ _ => by cases x; kernel_rfl
def o5x3 : Array Oper := regO (pth [1, 1, 0, 1, 0, 0, 0, 0] c5v)
def r5x3 : RG X24 := fun call yl x s κ => X24.rec (motive := fun _ => MO X24) (fun m a b c d f g h i l n o p r t u w y z A B C D E F s κ => binC l a 3 .leq P s (fun v0 s => κ (X24.mk m a b c d f g h i l n o p l a v0 w y z A B C D E F) s)) x s κ
theorem r5x3ok : RgOk P false o5x3 T24 r5x3 := fun _ _ x _ _ => by cases x; kernel_rfl
def o5x4 : Array Oper := regO (pth [1, 1, 0, 1, 0, 0, 1, 0, 0] c5v)
def r5x4 : RG X24 := fun call yl x s κ => X24.rec (motive := fun _ => MO X24) (fun m a b c d f g h i l n o p r t u w y z A B C D E F s κ => ptrK i 5 s (fun v0 s => ldV v0 false 1 s (fun v1 s => buildSliceC P 23 1 [(0, l)] s (fun v2 s => appendC P 23 23 v1 v2 s (fun v3 s => ptrK i 5 s (fun v4 s => stA v4 v3 1 s (fun _ s => κ (X24.mk m a b c d f g h i l n o p r t u w y v0 v1 l v2 v3 v4 F) s))))))) x s κ
theorem r5x4ok : RgOk P false o5x4 T24 r5x4 := fun _ _ x _ _ => by cases x; kernel_rfl
def o5x5 : Array Oper := regO (pth [1, 1, 0, 1, 0, 0, 1, 1] c5v)
def r5x5 : RG X24 := fun call yl x s κ => X24.rec (motive := fun _ => MO X24) (fun m a b c d f g h i l n o p r t u w y z A B C D E F s κ => binC l (.i .i64 1) 3 .add P s (fun v0 s => κ (X24.mk m a b c d f g h i v0 n o p r t u l v0 z A B C D E F) s)) x s κ
theorem r5x5ok : RgOk P false o5x5 T24 r5x5 := fun _ _ x _ _ => by cases x; kernel_rfl
def o5x6 : Array Oper := regO (pth [1, 1, 1, 0] c5v)
def r5x6 : RG X24 := fun call yl x s κ => X24.rec (motive := fun _ => MO X24) (fun m a b c d f g h i l n o p r t u w y z A B C D E F s κ => ldV i true 7 s (fun v0 s => stA h v0 7 s (fun _ s => κ (X24.mk m a b c d f g h i l n o p r t u w y z A B C D E v0) s))) x s κ
theorem r5x6ok : RgOk P false o5x6 T24 r5x6 := fun _ _ x _ _ => by cases x; kernel_rfl
def S5 : SF X24 := (seqS (regS P t0.fq r5x0) (seqS (regS P t0.fq r5x1) (seqS (seqS (regS P t0.fq r5x2) (blkS 0 (loopS (seqS (seqS (regS P t0.fq r5x3) (condS (fun x => X24.rec (motive := fun _ => FV) (fun _ _ _ _ _ _ _ _ _ _ _ _ _ _ _ z _ _ _ _ _ _ _ _ _ => z) x) skipS (exitS 0))) (seqS (blkS 1 (regS P t0.fq r5x4)) (regS P t0.fq r5x5)))))) (seqS (regS P t0.fq r5x6) retS))))
theorem S5ok : Sh P t0.fq T24 c5v S5 := by
  have e : c5v = (.seq (.region 0 o5x0 false) (.seq (.region 1 o5x1 false) (.seq (.seq (.region 2 o5x2 false) (.block 0 (.loop (.seq (.seq (.region 3 o5x3 false) (.cond (.tmp 14) .skip (.exit 0))) (.seq (.block 1 (.region 5 o5x4 false)) (.region 4 o5x5 false)))))) (.seq (.region 6 o5x6 false) .ret)))) := by kernel_rfl
  rw [e]
  exact (sh_seq (sh_reg r5x0ok) (sh_seq (sh_reg r5x1ok) (sh_seq (sh_seq (sh_reg r5x2ok) (sh_blk 0 (sh_loop (sh_seq (sh_seq (sh_reg r5x3ok) (sh_cond (fun x => by cases x; rfl) sh_skip (sh_exit 0))) (sh_seq (sh_blk 1 (sh_reg r5x4ok)) (sh_reg r5x5ok)))))) (sh_seq (sh_reg r5x6ok) sh_ret))))
def A5 : List FV → Option X24 := fun l => match l with
  | [a, b, c] => some (X24.mk [] a b c .e .e .e .e .e .e .e .e .e .e .e .e .e .e .e .e .e .e .e .e .e)
  | _ => none
def L5 : LQ := shal P T24 S5 [.cell 6 26] 4000 A5
def E5 : LA := evCall P t0.fa 4000 5
theorem G5 : Good P 5 L5 E5 := good_shal all0 (by kernel_rfl) (show FT P 5 = some (c5v, 24, [.cell 6 26]) by kernel_rfl) S5ok (fun l x h => by
    unfold A5 at h
    split at h
    · cases h; exact ⟨by kernel_rfl, by kernel_rfl⟩
    · cases h) 4000
inductive X14 where
  | mk (m : List Nat) (a b c d f g h i l n o p r t : FV)
def T14 (x : X14) : FF := X14.rec (motive := fun _ => FF) (fun m a b c d f g h i l n o p r t => ⟨(.n a (.n b (.n g .e .e .e .e) (.n n .e .e .e .e) (.n t .e .e .e .e) .e) (.n c (.n h .e .e .e .e) (.n o .e .e .e .e) .e .e) (.n d (.n i .e .e .e .e) (.n p .e .e .e .e) .e .e) (.n f (.n l .e .e .e .e) (.n r .e .e .e .e) .e .e)), 14, m⟩) x
def c6v : Code := bodyOf P 6
def o6x0 : Array Oper := regO (pth [0] c6v)
def r6x0 : RG X14 := fun call yl x s κ => X14.rec (motive := fun _ => MO X14) (fun m a b c d f g h i l n o p r t s κ => bxV a 26 s (fun v0 s => allocC P 40 s (fun v1 s => κ (X14.mk m a b c v0 f g v1 i l n o p r t) s))) x s κ
theorem r6x0ok : RgOk P false o6x0 T14 r6x0 := fun _ _ x _ _ => by cases x; kernel_rfl
def o6x1 : Array Oper := regO (pth [1, 0] c6v)
def r6x1 : RG X14 := fun call yl x s κ => X14.rec (motive := fun _ => MO X14) (fun m a b c d f g h i l n o p r t s κ => ptrK d 1 s (fun v0 s => ldV v0 false 1 s (fun v1 s => ptrK d 5 s (fun v2 s => ldV v2 false 1 s (fun v3 s => buildC P 40 [(0, (.i .i64 13)), (1, b), (2, c), (3, v1), (18, v3)] s (fun v4 s => stA h v4 62 s (fun _ s => κ (X14.mk m a b c d f g h b c v0 v1 v2 v3 v4) s))))))) x s κ
theorem r6x1ok : RgOk P false o6x1 T14 r6x1 := fun _ _ x _ _ => by cases x; kernel_rfl
def S6 : SF X14 := (seqS (regS P t0.fq r6x0) (seqS (regS P t0.fq r6x1) retS))
theorem S6ok : Sh P t0.fq T14 c6v S6 := by
  have e : c6v = (.seq (.region 0 o6x0 false) (.seq (.region 1 o6x1 false) .ret)) := by kernel_rfl
  rw [e]
  exact (sh_seq (sh_reg r6x0ok) (sh_seq (sh_reg r6x1ok) sh_ret))
def A6 : List FV → Option X14 := fun l => match l with
  | [a, b, c] => some (X14.mk [] a b c .e .e .e .e .e .e .e .e .e .e .e)
  | _ => none
def L6 : LQ := shal P T14 S6 [.cell 6 40] 4000 A6
def E6 : LA := evCall P t0.fa 4000 6
theorem G6 : Good P 6 L6 E6 := good_shal all0 (by kernel_rfl) (show FT P 6 = some (c6v, 14, [.cell 6 40]) by kernel_rfl) S6ok (fun l x h => by
    unfold A6 at h
    split at h
    · cases h; exact ⟨by kernel_rfl, by kernel_rfl⟩
    · cases h) 4000
inductive X16 where
  | mk (m : List Nat) (a b c d f g h i l n o p r t u w : FV)
def T16 (x : X16) : FF := X16.rec (motive := fun _ => FF) (fun m a b c d f g h i l n o p r t u w => ⟨(.n a (.n b (.n g .e .e .e .e) (.n n .e .e .e .e) (.n t .e .e .e .e) .e) (.n c (.n h .e .e .e .e) (.n o .e .e .e .e) (.n u .e .e .e .e) .e) (.n d (.n i .e .e .e .e) (.n p .e .e .e .e) (.n w .e .e .e .e) .e) (.n f (.n l .e .e .e .e) (.n r .e .e .e .e) .e .e)), 16, m⟩) x
def c10v : Code := bodyOf P 10
def o10x0 : Array Oper := regO (pth [0] c10v)
def r10x0 : RG X16 := fun call yl x s κ => X16.rec (motive := fun _ => MO X16) (fun m a b c d f g h i l n o p r t u w s κ => κ (X16.mk m (.o (.sl none 0 0)) b c d f g h i l n o p r t u w) s) x s κ
theorem r10x0ok : RgOk P false o10x0 T16 r10x0 := fun _ _ x _ _ => by cases x; kernel_rfl
def o10x1 : Array Oper := regO (pth [1, 0] c10v)
def r10x1 : RG X16 := fun call yl x s κ => X16.rec (motive := fun _ => MO X16) (fun m a b c d f g h i l n o p r t u w s κ => buildSliceC P 50 0 [] s (fun v0 s => κ (X16.mk m a v0 c v0 f g h i l n o p r t u w) s)) x s κ
theorem r10x1ok : RgOk P false o10x1 T16 r10x1 := fun _ _ x _ _ => by cases x; kernel_rfl
def o10x2 : Array Oper := regO (pth [1, 1, 0, 0] c10v)
def r10x2 : RG X16 := fun call yl x s κ => X16.rec (motive := fun _ => MO X16) (fun m a b c d f g h i l n o p r t u w s κ => κ (X16.mk m a b (.i .i64 0) d f g h i l n o p r t u w) s) x s κ
theorem r10x2ok : RgOk P false o10x2 T16 r10x2 := fun _ _ x _ _ => by cases x; kernel_rfl
def o10x3 : Array Oper := regO (pth [1, 1, 0, 1, 0, 0, 0, 0] c10v)
def r10x3 : RG X16 := fun call yl x s κ => X16.rec (motive := fun _ => MO X16) (fun m a b c d f g h i l n o p r t u w s κ => binC c (.i .i64 5) 3 .lss P s (fun v0 s => κ (X16.mk m a b c d c v0 h i l n o p r t u w) s)) x s κ
theorem r10x3ok : RgOk P false o10x3 T16 r10x3 := fun _ _ x _ _ => by cases x; kernel_rfl
def o10x4 : Array Oper := regO (pth [1, 1, 0, 1, 0, 0, 1, 0, 0] c10v)
def r10x4 : RG X16 := fun call yl x s κ => X16.rec (motive := fun _ => MO X16) (fun m a b c d f g h i l n o p r t u w s κ => binC c (.i .i64 1) 3 .add P s (fun v0 s => cvV v0 .u8 s (fun v1 s => buildC P 38 [(0, v1), (1, (.i .u8 7))] s (fun v2 s => buildSliceC P 50 1 [(0, v2)] s (fun v3 s => appendC P 50 50 b v3 s (fun v4 s => κ (X16.mk m a v4 c d f g h i b c v0 v1 v2 v3 v4 w) s)))))) x s κ
theorem r10x4ok : RgOk P false o10x4 T16 r10x4 := fun _ _ x _ _ => by cases x; kernel_rfl
def o10x5 : Array Oper := regO (pth [1, 1, 0, 1, 0, 0, 1, 1] c10v)
def r10x5 : RG X16 := fun call yl x s κ => X16.rec (motive := fun _ => MO X16) (fun m a b c d f g h i l n o p r t u w s κ => binC c (.i .i64 1) 3 .add P s (fun v0 s => κ (X16.mk m a b v0 d f g c v0 l n o p r t u w) s)) x s κ
theorem r10x5ok : RgOk P false o10x5 T16 r10x5 := fun _ _ x _ _ => by cases x; kernel_rfl
def o10x6 : Array Oper := regO (pth [1, 1, 1, 0] c10v)
def r10x6 : RG X16 := fun call yl x s κ => X16.rec (motive := fun _ => MO X16) (fun m a b c d f g h i l n o p r t u w s κ => κ (X16.mk m b b c d f g h i l n o p r t u b) s) x s κ
theorem r10x6ok : RgOk P false o10x6 T16 r10x6 := fun _ _ x _ _ => by cases x; kernel_rfl
def S10 : SF X16 := (seqS (regS P t0.fq r10x0) (seqS (regS P t0.fq r10x1) (seqS (seqS (regS P t0.fq r10x2) (blkS 0 (loopS (seqS (seqS (regS P t0.fq r10x3) (condS (fun x => X16.rec (motive := fun _ => FV) (fun _ _ _ _ _ _ z _ _ _ _ _ _ _ _ _ _ => z) x) skipS (exitS 0))) (seqS (blkS 1 (regS P t0.fq r10x4)) (regS P t0.fq r10x5)))))) (seqS (regS P t0.fq r10x6) retS))))
theorem S10ok : Sh P t0.fq T16 c10v S10 := by
  have e : c10v = (.seq (.region 0 o10x0 false) (.seq (.region 1 o10x1 false) (.seq (.seq (.region 2 o10x2 false) (.block 0 (.loop (.seq (.seq (.region 3 o10x3 false) (.cond (.tmp 5) .skip (.exit 0))) (.seq (.block 1 (.region 5 o10x4 false)) (.region 4 o10x5 false)))))) (.seq (.region 6 o10x6 false) .ret)))) := by kernel_rfl
  rw [e]
  exact (sh_seq (sh_reg r10x0ok) (sh_seq (sh_reg r10x1ok) (sh_seq (sh_seq (sh_reg r10x2ok) (sh_blk 0 (sh_loop (sh_seq (sh_seq (sh_reg r10x3ok) (sh_cond (fun x => by cases x; rfl) sh_skip (sh_exit 0))) (sh_seq (sh_blk 1 (sh_reg r10x4ok)) (sh_reg r10x5ok)))))) (sh_seq (sh_reg r10x6ok) sh_ret))))
def A10 : List FV → Option X16 := fun l => match l with
  | [] => some (X16.mk [] .e .e .e .e .e .e .e .e .e .e .e .e .e .e .e .e)
  | _ => none
def L10 : LQ := shal P T16 S10 [.tmp 0] 4000 A10
def E10 : LA := evCall P t0.fa 4000 10
theorem G10 : Good P 10 L10 E10 := good_shal all0 (by kernel_rfl) (show FT P 10 = some (c10v, 16, [.tmp 0]) by kernel_rfl) S10ok (fun l x h => by
    unfold A10 at h
    split at h
    · cases h; exact ⟨by kernel_rfl, by kernel_rfl⟩
    · cases h) 4000
inductive X8 where
  | mk (m : List Nat) (a b c d f g h i : FV)
def T8 (x : X8) : FF := X8.rec (motive := fun _ => FF) (fun m a b c d f g h i => ⟨(.n a (.n b (.n g .e .e .e .e) .e .e .e) (.n c (.n h .e .e .e .e) .e .e .e) (.n d (.n i .e .e .e .e) .e .e .e) (.n f .e .e .e .e)), 8, m⟩) x
def c30v : Code := bodyOf P 30
def o30x0 : Array Oper := regO (pth [0] c30v)
def r30x0 : RG X8 := fun call yl x s κ => X8.rec (motive := fun _ => MO X8) (fun m a b c d f g h i s κ => κ (X8.mk m a b (.o (.sl none 0 0)) d f g h i) s) x s κ
theorem r30x0ok : RgOk P false o30x0 T8 r30x0 := fun _ _ x _ _ => by cases x; kernel_rfl
def o30x1 : Array Oper := regO (pth [1, 0, 0] c30v)
def r30x1 : RG X8 := fun call yl x s κ => X8.rec (motive := fun _ => MO X8) (fun m a b c d f g h i s κ => binC a (.o (.sl none 0 0)) 45 .eql P s (fun v0 s => κ (X8.mk m a b c a v0 g h i) s)) x s κ
theorem r30x1ok : RgOk P false o30x1 T8 r30x1 := fun _ _ x _ _ => by cases x; kernel_rfl
def o30x2 : Array Oper := regO (pth [1, 0, 1, 0, 0] c30v)
def r30x2 : RG X8 := fun call yl x s κ => X8.rec (motive := fun _ => MO X8) (fun m a b c d f g h i s κ => κ (X8.mk m a b (.o (.sl none 0 0)) d f g h i) s) x s κ
theorem r30x2ok : RgOk P false o30x2 T8 r30x2 := fun _ _ x _ _ => by cases x; kernel_rfl
def o30x3 : Array Oper := regO (pth [1, 1, 0] c30v)
def r30x3 : RG X8 := fun call yl x s κ => X8.rec (motive := fun _ => MO X8) (fun m a b c d f g h i s κ => buildSliceC P 45 0 [] s (fun v0 s => appendC P 45 45 v0 a s (fun v1 s => κ (X8.mk m a b v1 d f v0 a v1) s))) x s κ
theorem r30x3ok : RgOk P false o30x3 T8 r30x3 := fun _ _ x _ _ => by cases x; kernel_rfl
def S30 : SF X8 := (seqS (regS P t0.fq r30x0) (seqS (seqS (regS P t0.fq r30x1) (condS (fun x => X8.rec (motive := fun _ => FV) (fun _ _ _ _ _ z _ _ _ => z) x) (seqS (regS P t0.fq r30x2) retS) skipS)) (seqS (regS P t0.fq r30x3) retS)))
theorem S30ok : Sh P t0.fq T8 c30v S30 := by
  have e : c30v = (.seq (.region 0 o30x0 false) (.seq (.seq (.region 1 o30x1 false) (.cond (.tmp 4) (.seq (.region 2 o30x2 false) .ret) .skip)) (.seq (.region 3 o30x3 false) .ret))) := by kernel_rfl
  rw [e]
  exact (sh_seq (sh_reg r30x0ok) (sh_seq (sh_seq (sh_reg r30x1ok) (sh_cond (fun x => by cases x; rfl) (sh_seq (sh_reg r30x2ok) sh_ret) sh_skip)) (sh_seq (sh_reg r30x3ok) sh_ret)))
def A30 : List FV → Option X8 := fun l => match l with
  | [a] => some (X8.mk [] a .e .e .e .e .e .e .e)
  | _ => none
def L30 : LQ := shal P T8 S30 [.tmp 2] 4000 A30
def E30 : LA := evCall P t0.fa 4000 30
theorem G30 : Good P 30 L30 E30 := good_shal all0 (by kernel_rfl) (show FT P 30 = some (c30v, 8, [.tmp 2]) by kernel_rfl) S30ok (fun l x h => by
    unfold A30 at h
    split at h
    · cases h; exact ⟨by kernel_rfl, by kernel_rfl⟩
    · cases h) 4000
inductive X26 where
  | mk (m : List Nat) (a b c d f g h i l n o p r t u w y z A B C D E F G H : FV)
def T26 (x : X26) : FF := X26.rec (motive := fun _ => FF) (fun m a b c d f g h i l n o p r t u w y z A B C D E F G H => ⟨(.n a (.n b (.n g (.n D .e .e .e .e) .e .e .e) (.n n (.n H .e .e .e .e) .e .e .e) (.n t .e .e .e .e) (.n z .e .e .e .e)) (.n c (.n h (.n E .e .e .e .e) .e .e .e) (.n o .e .e .e .e) (.n u .e .e .e .e) (.n A .e .e .e .e)) (.n d (.n i (.n F .e .e .e .e) .e .e .e) (.n p .e .e .e .e) (.n w .e .e .e .e) (.n B .e .e .e .e)) (.n f (.n l (.n G .e .e .e .e) .e .e .e) (.n r .e .e .e .e) (.n y .e .e .e .e) (.n C .e .e .e .e))), 26, m⟩) x
def c31v : Code := bodyOf P 31
def o31x0 : Array Oper := regO (pth [0] c31v)
def r31x0 : RG X26 := fun call yl x s κ => X26.rec (motive := fun _ => MO X26) (fun m a b c d f g h i l n o p r t u w y z A B C D E F G H s κ => κ (X26.mk m a b c d (.b false) g h i l n o p r t u w y z A B C D E F G H) s) x s κ
theorem r31x0ok : RgOk P false o31x0 T26 r31x0 := fun _ _ x _ _ => by cases x; kernel_rfl
def o31x1 : Array Oper := regO (pth [1, 0, 0] c31v)
def r31x1 : RG X26 := fun call yl x s κ => X26.rec (motive := fun _ => MO X26) (fun m a b c d f g h i l n o p r t u w y z A B C D E F G H s κ => lenC a P 23 s (fun v0 s => lenC b P 23 s (fun v1 s => binC v0 v1 3 .neq P s (fun v2 s => κ (X26.mk m a b c d f g a v0 b v1 v2 p r t u w y z A B C D E F G H) s)))) x s κ
theorem r31x1ok : RgOk P false o31x1 T26 r31x1 := fun _ _ x _ _ => by cases x; kernel_rfl
def o31x2 : Array Oper := regO (pth [1, 0, 1, 0, 0] c31v)
def r31x2 : RG X26 := fun call yl x s κ => X26.rec (motive := fun _ => MO X26) (fun m a b c d f g h i l n o p r t u w y z A B C D E F G H s κ => κ (X26.mk m a b c d (.b false) g h i l n o p r t u w y z A B C D E F G H) s) x s κ
theorem r31x2ok : RgOk P false o31x2 T26 r31x2 := fun _ _ x _ _ => by cases x; kernel_rfl
def o31x3 : Array Oper := regO (pth [1, 1, 0, 0] c31v)
def r31x3 : RG X26 := fun call yl x s κ => X26.rec (motive := fun _ => MO X26) (fun m a b c d f g h i l n o p r t u w y z A B C D E F G H s κ => κ (X26.mk m a b c d f (.i .i64 0) h i l n o p r t u w y z A B C D E F G H) s) x s κ
theorem r31x3ok : RgOk P false o31x3 T26 r31x3 := fun _ _ x _ _ => by cases x; kernel_rfl
def o31x4 : Array Oper := regO (pth [1, 1, 0, 1, 0, 0, 0, 0] c31v)
def r31x4 : RG X26 := fun call yl x s κ => X26.rec (motive := fun _ => MO X26) (fun m a b c d f g h i l n o p r t u w y z A B C D E F G H s κ => lenC a P 23 s (fun v0 s => binC g v0 3 .lss P s (fun v1 s => κ (X26.mk m a b c d f g h i l n o g a v0 v1 w y z A B C D E F G H) s))) x s κ
theorem r31x4ok : RgOk P false o31x4 T26 r31x4 := fun _ _ x _ _ => by cases x; kernel_rfl
def o31x5 : Array Oper := regO (pth [1, 1, 0, 1, 0, 0, 1, 0, 0, 0] c31v)
def r31x5 : RG X26 := fun call yl x s κ => X26.rec (motive := fun _ => MO X26) (fun m a b c d f g h i l n o p r t u w y z A B C D E F G H s κ => (fun qv0 => (fun qv1 => sandS (fun s κ1 => natK g fun j => iaS a j 1 s (κ1)) s (fun qv2 v3 s => sandS (fun s κ1 => ldV v3 false 1 s (κ1)) s (fun qv4 v5 s => (fun qv6 => (fun qv7 => sandS (fun s κ1 => natK g fun j => iaS b j 1 s (κ1)) s (fun qv8 v9 s => sandS (fun s κ1 => ldV v9 false 1 s (κ1)) s (fun qv10 v11 s => sandS (fun s κ1 => binC v5 v11 3 .neq P s (κ1)) s (fun qv12 v13 s => V.iff (dynA [] [qv0, qv1, qv2, qv4, qv6, qv7, qv8, qv10, qv12] [[], [true], [false, false], [false, false, false], [true, true, true, true], [true, true, true, true, true], [true, true, true, true, false, false], [true, true, true, true, false, false, false], [false, false, false, false, false, false, false, false]]) (κ (X26.mk m a b c d f g h i l n o p r t u w y a g v3 v5 b g v9 v11 v13) s))))) (qz s)) (qz s)))) (qz s)) (qz s)) x s κ
theorem r31x5ok : RgOk P true o31x5 T26 r31x5 := fun _ _ x _ _ => by cases x; kernel_rfl
def o31x6 : Array Oper := regO (pth [1, 1, 0, 1, 0, 0, 1, 0, 0, 1, 0, 0] c31v)
def r31x6 : RG X26 := fun call yl x s κ => X26.rec (motive := fun _ => MO X26) (fun m a b c d f g h i l n o p r t u w y z A B C D E F G H s κ => κ (X26.mk m a b c d (.b false) g h i l n o p r t u w y z A B C D E F G H) s) x s κ
theorem r31x6ok : RgOk P false o31x6 T26 r31x6 := fun _ _ x _ _ => by cases x; kernel_rfl
def o31x7 : Array Oper := regO (pth [1, 1, 0, 1, 0, 0, 1, 1] c31v)
def r31x7 : RG X26 := fun call yl x s κ => X26.rec (motive := fun _ => MO X26) (fun m a b c d f g h i l n o p r t u w y z A B C D E F G H s κ => binC g (.i .i64 1) 3 .add P s (fun v0 s => κ (X26.mk m a b c d f v0 h i l n o p r t u g v0 z A B C D E F G H) s)) x s κ
theorem r31x7ok : RgOk P false o31x7 T26 r31x7 := fun _ _ x _ _ => by cases x; kernel_rfl
def o31x8 : Array Oper := regO (pth [1, 1, 1, 0] c31v)
def r31x8 : RG X26 := fun call yl x s κ => X26.rec (motive := fun _ => MO X26) (fun m a b c d f g h i l n o p r t u w y z A B C D E F G H s κ => κ (X26.mk m a b c d (.b true) g h i l n o p r t u w y z A B C D E F G H) s) x s κ
theorem r31x8ok : RgOk P false o31x8 T26 r31x8 := fun _ _ x _ _ => by cases x; kernel_rfl
def S31 : SF X26 := (seqS (regS P t0.fq r31x0) (seqS (seqS (regS P t0.fq r31x1) (condS (fun x => X26.rec (motive := fun _ => FV) (fun _ _ _ _ _ _ _ _ _ _ _ z _ _ _ _ _ _ _ _ _ _ _ _ _ _ _ => z) x) (seqS (regS P t0.fq r31x2) retS) skipS)) (seqS (seqS (regS P t0.fq r31x3) (blkS 0 (loopS (seqS (seqS (regS P t0.fq r31x4) (condS (fun x => X26.rec (motive := fun _ => FV) (fun _ _ _ _ _ _ _ _ _ _ _ _ _ _ _ z _ _ _ _ _ _ _ _ _ _ _ => z) x) skipS (exitS 0))) (seqS (blkS 1 (seqS (regS P t0.fq r31x5) (condS (fun x => X26.rec (motive := fun _ => FV) (fun _ _ _ _ _ _ _ _ _ _ _ _ _ _ _ _ _ _ _ _ _ _ _ _ _ _ z => z) x) (seqS (regS P t0.fq r31x6) retS) skipS))) (regS P t0.fq r31x7)))))) (seqS (regS P t0.fq r31x8) retS))))
theorem S31ok : Sh P t0.fq T26 c31v S31 := by
  have e : c31v = (.seq (.region 0 o31x0 false) (.seq (.seq (.region 1 o31x1 false) (.cond (.tmp 10) (.seq (.region 2 o31x2 false) .ret) .skip)) (.seq (.seq (.region 3 o31x3 false) (.block 0 (.loop (.seq (.seq (.region 4 o31x4 false) (.cond (.tmp 14) .skip (.exit 0))) (.seq (.block 1 (.seq (.region 6 o31x5 true) (.cond (.tmp 25) (.seq (.region 7 o31x6 false) .ret) .skip))) (.region 5 o31x7 false)))))) (.seq (.region 8 o31x8 false) .ret)))) := by kernel_rfl
  rw [e]
  exact (sh_seq (sh_reg r31x0ok) (sh_seq (sh_seq (sh_reg r31x1ok) (sh_cond (fun x => by cases x; rfl) (sh_seq (sh_reg r31x2ok) sh_ret) sh_skip)) (sh_seq (sh_seq (sh_reg r31x3ok) (sh_blk 0 (sh_loop (sh_seq (sh_seq (sh_reg r31x4ok) (sh_cond (fun x => by cases x; rfl) sh_skip (sh_exit 0))) (sh_seq (sh_blk 1 (sh_seq (sh_reg r31x5ok) (sh_cond (fun x => by cases x; rfl) (sh_seq (sh_reg r31x6ok) sh_ret) sh_skip))) (sh_reg r31x7ok)))))) (sh_seq (sh_reg r31x8ok) sh_ret))))
def A31 : List FV → Option X26 := fun l => match l with
  | [a, b] => some (X26.mk [] a b .e .e .e .e .e .e .e .e .e .e .e .e .e .e .e .e .e .e .e .e .e .e .e .e)
  | _ => none
def L31 : LQ := shal P T26 S31 [.tmp 4] 4000 A31
def E31 : LA := evCall P t0.fa 4000 31
theorem G31 : Good P 31 L31 E31 := good_shal all0 (by kernel_rfl) (show FT P 31 = some (c31v, 26, [.tmp 4]) by kernel_rfl) S31ok (fun l x h => by
    unfold A31 at h
    split at h
    · cases h; exact ⟨by kernel_rfl, by kernel_rfl⟩
    · cases h) 4000
inductive X17 where
  | mk (m : List Nat) (a b c d f g h i l n o p r t u w y : FV)
def T17 (x : X17) : FF := X17.rec (motive := fun _ => FF) (fun m a b c d f g h i l n o p r t u w y => ⟨(.n a (.n b (.n g .e .e .e .e) (.n n .e .e .e .e) (.n t .e .e .e .e) .e) (.n c (.n h .e .e .e .e) (.n o .e .e .e .e) (.n u .e .e .e .e) .e) (.n d (.n i .e .e .e .e) (.n p .e .e .e .e) (.n w .e .e .e .e) .e) (.n f (.n l .e .e .e .e) (.n r .e .e .e .e) (.n y .e .e .e .e) .e)), 17, m⟩) x
def c33v : Code := bodyOf P 33
def o33x0 : Array Oper := regO (pth [0] c33v)
def r33x0 : RG X17 := fun call yl x s κ => X17.rec (motive := fun _ => MO X17) (fun m a b c d f g h i l n o p r t u w y s κ => κ (X17.mk m a b (.b false) d f g h i l n o p r t u w y) s) x s κ
theorem r33x0ok : RgOk P false o33x0 T17 r33x0 := fun _ _ x _ _ => by cases x; kernel_rfl
def o33x1 : Array Oper := regO (pth [1, 0] c33v)
def r33x1 : RG X17 := fun call yl x s κ => X17.rec (motive := fun _ => MO X17) (fun m a b c d f g h i l n o p r t u w y s κ => binC a (.i .i64 8) 3 .leq P s (fun v0 s => bnk (fun κ1 => wantC v0 false (κ1 a s) (κ1 .e s)) (fun v1 s => bnk (fun κ1 => wantC v0 false (binC v1 (.i .i64 11) 3 .eql P s (κ1)) (κ1 .e s)) (fun v2 s => bnk (fun κ0 => condB v0 (κ0 (.b true) s) (κ0 v2 s)) (fun v3 s => bnk (fun κ1 => wantC v3 false (κ1 a s) (κ1 .e s)) (fun v4 s => bnk (fun κ1 => wantC v3 false (binC v4 (.i .i64 12) 3 .eql P s (κ1)) (κ1 .e s)) (fun v5 s => bnk (fun κ0 => condB v3 (κ0 (.b true) s) (κ0 v5 s)) (fun v6 s => bnk (fun κ1 => wantC v6 false (κ1 a s) (κ1 .e s)) (fun v7 s => bnk (fun κ1 => wantC v6 false (binC v7 (.i .i64 13) 3 .eql P s (κ1)) (κ1 .e s)) (fun v8 s => bnk (fun κ0 => condB v6 (κ0 (.b true) s) (κ0 v8 s)) (fun v9 s => κ (X17.mk m a b v9 a v0 v0 v1 v2 v3 v3 v4 v5 v6 v6 v7 v8 v9) s))))))))))) x s κ
theorem r33x1ok : RgOk P false o33x1 T17 r33x1 := fun _ _ x _ _ => by cases x; kernel_rfl
def S33 : SF X17 := (seqS (regS P t0.fq r33x0) (seqS (regS P t0.fq r33x1) retS))
theorem S33ok : Sh P t0.fq T17 c33v S33 := by
  have e : c33v = (.seq (.region 0 o33x0 false) (.seq (.region 1 o33x1 false) .ret)) := by kernel_rfl
  rw [e]
  exact (sh_seq (sh_reg r33x0ok) (sh_seq (sh_reg r33x1ok) sh_ret))
def A33 : List FV → Option X17 := fun l => match l with
  | [a] => some (X17.mk [] a .e .e .e .e .e .e .e .e .e .e .e .e .e .e .e .e)
  | _ => none
def L33 : LQ := shal P T17 S33 [.tmp 2] 4000 A33
def E33 : LA := evCall P t0.fa 4000 33
theorem G33 : Good P 33 L33 E33 := good_shal all0 (by kernel_rfl) (show FT P 33 = some (c33v, 17, [.tmp 2]) by kernel_rfl) S33ok (fun l x h => by
    unfold A33 at h
    split at h
    · cases h; exact ⟨by kernel_rfl, by kernel_rfl⟩
    · cases h) 4000
inductive X52 where
  | mk (m : List Nat) (a b c d f g h i l n o p r t u w y z A B C D E F G H I J K L M N O Q R S T U W Y Z a1 b1 c1 d1 f1 g1 h1 i1 l1 n1 o1 : FV)
def T52 (x : X52) : FF := X52.rec (motive := fun _ => FF) (fun m a b c d f g h i l n o p r t u w y z A B C D E F G H I J K L M N O Q R S T U W Y Z a1 b1 c1 d1 f1 g1 h1 i1 l1 n1 o1 => ⟨(.n a (.n b (.n g (.n D .e .e .e .e) (.n U .e .e .e .e) .e .e) (.n n (.n H .e .e .e .e) (.n a1 .e .e .e .e) .e .e) (.n t (.n L .e .e .e .e) (.n f1 .e .e .e .e) .e .e) (.n z (.n Q .e .e .e .e) (.n l1 .e .e .e .e) .e .e)) (.n c (.n h (.n E .e .e .e .e) (.n W .e .e .e .e) .e .e) (.n o (.n I .e .e .e .e) (.n b1 .e .e .e .e) .e .e) (.n u (.n M .e .e .e .e) (.n g1 .e .e .e .e) .e .e) (.n A (.n R .e .e .e .e) (.n n1 .e .e .e .e) .e .e)) (.n d (.n i (.n F .e .e .e .e) (.n Y .e .e .e .e) .e .e) (.n p (.n J .e .e .e .e) (.n c1 .e .e .e .e) .e .e) (.n w (.n N .e .e .e .e) (.n h1 .e .e .e .e) .e .e) (.n B (.n S .e .e .e .e) (.n o1 .e .e .e .e) .e .e)) (.n f (.n l (.n G .e .e .e .e) (.n Z .e .e .e .e) .e .e) (.n r (.n K .e .e .e .e) (.n d1 .e .e .e .e) .e .e) (.n y (.n O .e .e .e .e) (.n i1 .e .e .e .e) .e .e) (.n C (.n T .e .e .e .e) .e .e .e))), 52, m⟩) x
def c34v : Code := bodyOf P 34
def o34x0 : Array Oper := regO (pth [0] c34v)
def r34x0 : RG X52 := fun call yl x s κ => X52.rec (motive := fun _ => MO X52) (fun m a b c d f g h i l n o p r t u w y z A B C D E F G H I J K L M N O Q R S T U W Y Z a1 b1 c1 d1 f1 g1 h1 i1 l1 n1 o1 s κ => bxV a 40 s (fun v0 s => κ (X52.mk m a b v0 d (.i .i64 0) g h i l n o p r t u w y z A B C D E F G H I J K L M N O Q R S T U W Y Z a1 b1 c1 d1 f1 g1 h1 i1 l1 n1 o1) s)) x s κ
theorem r34x0ok : RgOk P false o34x0 T52 r34x0 := fun _ _ x _ _ => by cases x; kernel_rfl
def o34x1 : Array Oper := regO (pth [1, 0, 0] c34v)
def r34x1 : RG X52 := fun call yl x s κ => X52.rec (motive := fun _ => MO X52) (fun m a b c d f g h i l n o p r t u w y z A B C D E F G H I J K L M N O Q R S T U W Y Z a1 b1 c1 d1 f1 g1 h1 i1 l1 n1 o1 s κ => κ (X52.mk m a b c d f b h i l n o p r t u w y z A B C D E F G H I J K L M N O Q R S T U W Y Z a1 b1 c1 d1 f1 g1 h1 i1 l1 n1 o1) s) x s κ
theorem r34x1ok : RgOk P false o34x1 T52 r34x1 := fun _ _ x _ _ => by cases x; kernel_rfl
def o34x2 : Array Oper := regO (pth [1, 0, 1, 0, 0] c34v)
def r34x2 : RG X52 := fun call yl x s κ => X52.rec (motive := fun _ => MO X52) (fun m a b c d f g h i l n o p r t u w y z A B C D E F G H I J K L M N O Q R S T U W Y Z a1 b1 c1 d1 f1 g1 h1 i1 l1 n1 o1 s κ => binC g (.i .i64 0) 3 .eql P s (fun v0 s => κ (X52.mk m a b c d f g v0 v0 l n o p r t u w y z A B C D E F G H I J K L M N O Q R S T U W Y Z a1 b1 c1 d1 f1 g1 h1 i1 l1 n1 o1) s)) x s κ
theorem r34x2ok : RgOk P false o34x2 T52 r34x2 := fun _ _ x _ _ => by cases x; kernel_rfl
def o34x3 : Array Oper := regO (pth [1, 0, 1, 0, 1, 0, 0] c34v)
def r34x3 : RG X52 := fun call yl x s κ => X52.rec (motive := fun _ => MO X52) (fun m a b c d f g h i l n o p r t u w y z A B C D E F G H I J K L M N O Q R S T U W Y Z a1 b1 c1 d1 f1 g1 h1 i1 l1 n1 o1 s κ => ptrK c 3 s (fun v0 s => ldV v0 false 1 s (fun v1 s => κ (X52.mk m a b c d v1 g h i v0 v1 o p r t u w y z A B C D E F G H I J K L M N O Q R S T U W Y Z a1 b1 c1 d1 f1 g1 h1 i1 l1 n1 o1) s))) x s κ
theorem r34x3ok : RgOk P false o34x3 T52 r34x3 := fun _ _ x _ _ => by cases x; kernel_rfl
def o34x4 : Array Oper := regO (pth [1, 0, 1, 0, 1, 1, 0] c34v)
def r34x4 : RG X52 := fun call yl x s κ => X52.rec (motive := fun _ => MO X52) (fun m a b c d f g h i l n o p r t u w y z A B C D E F G H I J K L M N O Q R S T U W Y Z a1 b1 c1 d1 f1 g1 h1 i1 l1 n1 o1 s κ => binC g (.i .i64 1) 3 .eql P s (fun v0 s => κ (X52.mk m a b c d f g h i l n v0 v0 r t u w y z A B C D E F G H I J K L M N O Q R S T U W Y Z a1 b1 c1 d1 f1 g1 h1 i1 l1 n1 o1) s)) x s κ
theorem r34x4ok : RgOk P false o34x4 T52 r34x4 := fun _ _ x _ _ => by cases x; kernel_rfl
def o34x5 : Array Oper := regO (pth [1, 0, 1, 0, 1, 1, 1, 0, 0] c34v)
def r34x5 : RG X52 := fun call yl x s κ => X52.rec (motive := fun _ => MO X52) (fun m a b c d f g h i l n o p r t u w y z A B C D E F G H I J K L M N O Q R S T U W Y Z a1 b1 c1 d1 f1 g1 h1 i1 l1 n1 o1 s κ => ptrK c 4 s (fun v0 s => ldV v0 false 1 s (fun v1 s => κ (X52.mk m a b c d v1 g h i l n o p v0 v1 u w y z A B C D E F G H I J K L M N O Q R S T U W Y Z a1 b1 c1 d1 f1 g1 h1 i1 l1 n1 o1) s))) x s κ
theorem r34x5ok : RgOk P false o34x5 T52 r34x5 := fun _ _ x _ _ => by cases x; kernel_rfl
def o34x6 : Array Oper := regO (pth [1, 0, 1, 0, 1, 1, 1, 1, 0] c34v)
def r34x6 : RG X52 := fun call yl x s κ => X52.rec (motive := fun _ => MO X52) (fun m a b c d f g h i l n o p r t u w y z A B C D E F G H I J K L M N O Q R S T U W Y Z a1 b1 c1 d1 f1 g1 h1 i1 l1 n1 o1 s κ => binC g (.i .i64 2) 3 .eql P s (fun v0 s => κ (X52.mk m a b c d f g h i l n o p r t v0 v0 y z A B C D E F G H I J K L M N O Q R S T U W Y Z a1 b1 c1 d1 f1 g1 h1 i1 l1 n1 o1) s)) x s κ
theorem r34x6ok : RgOk P false o34x6 T52 r34x6 := fun _ _ x _ _ => by cases x; kernel_rfl
def o34x7 : Array Oper := regO (pth [1, 0, 1, 0, 1, 1, 1, 1, 1, 0, 0] c34v)
def r34x7 : RG X52 := fun call yl x s κ => X52.rec (motive := fun _ => MO X52) (fun m a b c d f g h i l n o p r t u w y z A B C D E F G H I J K L M N O Q R S T U W Y Z a1 b1 c1 d1 f1 g1 h1 i1 l1 n1 o1 s κ => ptrK c 5 s (fun v0 s => ldV v0 false 1 s (fun v1 s => κ (X52.mk m a b c d v1 g h i l n o p r t u w v0 v1 A B C D E F G H I J K L M N O Q R S T U W Y Z a1 b1 c1 d1 f1 g1 h1 i1 l1 n1 o1) s))) x s κ
theorem r34x7ok : RgOk P false o34x7 T52 r34x7 := fun _ _ x _ _ => by cases x; kernel_rfl
def o34x8 : Array Oper := regO (pth [1, 0, 1, 0, 1, 1, 1, 1, 1, 1, 0] c34v)
def r34x8 : RG X52 := fun call yl x s κ => X52.rec (motive := fun _ => MO X52) (fun m a b c d f g h i l n o p r t u w y z A B C D E F G H I J K L M N O Q R S T U W Y Z a1 b1 c1 d1 f1 g1 h1 i1 l1 n1 o1 s κ => binC g (.i .i64 3) 3 .eql P s (fun v0 s => κ (X52.mk m a b c d f g h i l n o p r t u w y z v0 v0 C D E F G H I J K L M N O Q R S T U W Y Z a1 b1 c1 d1 f1 g1 h1 i1 l1 n1 o1) s)) x s κ
theorem r34x8ok : RgOk P false o34x8 T52 r34x8 := fun _ _ x _ _ => by cases x; kernel_rfl
def o34x9 : Array Oper := regO (pth [1, 0, 1, 0, 1, 1, 1, 1, 1, 1, 1, 0, 0] c34v)
def r34x9 : RG X52 := fun call yl x s κ => X52.rec (motive := fun _ => MO X52) (fun m a b c d f g h i l n o p r t u w y z A B C D E F G H I J K L M N O Q R S T U W Y Z a1 b1 c1 d1 f1 g1 h1 i1 l1 n1 o1 s κ => ptrK c 6 s (fun v0 s => ldV v0 false 1 s (fun v1 s => κ (X52.mk m a b c d v1 g h i l n o p r t u w y z A B v0 v1 E F G H I J K L M N O Q R S T U W Y Z a1 b1 c1 d1 f1 g1 h1 i1 l1 n1 o1) s))) x s κ
theorem r34x9ok : RgOk P false o34x9 T52 r34x9 := fun _ _ x _ _ => by cases x; kernel_rfl
def o34x10 : Array Oper := regO (pth [1, 0, 1, 0, 1, 1, 1, 1, 1, 1, 1, 1, 0] c34v)
def r34x10 : RG X52 := fun call yl x s κ => X52.rec (motive := fun _ => MO X52) (fun m a b c d f g h i l n o p r t u w y z A B C D E F G H I J K L M N O Q R S T U W Y Z a1 b1 c1 d1 f1 g1 h1 i1 l1 n1 o1 s κ => binC g (.i .i64 4) 3 .eql P s (fun v0 s => κ (X52.mk m a b c d f g h i l n o p r t u w y z A B C D v0 v0 G H I J K L M N O Q R S T U W Y Z a1 b1 c1 d1 f1 g1 h1 i1 l1 n1 o1) s)) x s κ
theorem r34x10ok : RgOk P false o34x10 T52 r34x10 := fun _ _ x _ _ => by cases x; kernel_rfl
def o34x11 : Array Oper := regO (pth [1, 0, 1, 0, 1, 1, 1, 1, 1, 1, 1, 1, 1, 0, 0] c34v)
def r34x11 : RG X52 := fun call yl x s κ => X52.rec (motive := fun _ => MO X52) (fun m a b c d f g h i l n o p r t u w y z A B C D E F G H I J K L M N O Q R S T U W Y Z a1 b1 c1 d1 f1 g1 h1 i1 l1 n1 o1 s κ => ptrK c 7 s (fun v0 s => ldV v0 false 1 s (fun v1 s => κ (X52.mk m a b c d v1 g h i l n o p r t u w y z A B C D E F v0 v1 I J K L M N O Q R S T U W Y Z a1 b1 c1 d1 f1 g1 h1 i1 l1 n1 o1) s))) x s κ
theorem r34x11ok : RgOk P false o34x11 T52 r34x11 := fun _ _ x _ _ => by cases x; kernel_rfl
def o34x12 : Array Oper := regO (pth [1, 0, 1, 0, 1, 1, 1, 1, 1, 1, 1, 1, 1, 1, 0] c34v)
def r34x12 : RG X52 := fun call yl x s κ => X52.rec (motive := fun _ => MO X52) (fun m a b c d f g h i l n o p r t u w y z A B C D E F G H I J K L M N O Q R S T U W Y Z a1 b1 c1 d1 f1 g1 h1 i1 l1 n1 o1 s κ => binC g (.i .i64 5) 3 .eql P s (fun v0 s => κ (X52.mk m a b c d f g h i l n o p r t u w y z A B C D E F G H v0 v0 K L M N O Q R S T U W Y Z a1 b1 c1 d1 f1 g1 h1 i1 l1 n1 o1) s)) x s κ
theorem r34x12ok : RgOk P false o34x12 T52 r34x12 := fun _ _ x _ _ => by cases x; kernel_rfl
def o34x13 : Array Oper := regO (pth [1, 0, 1, 0, 1, 1, 1, 1, 1, 1, 1, 1, 1, 1, 1, 0, 0] c34v)
def r34x13 : RG X52 := fun call yl x s κ => X52.rec (motive := fun _ => MO X52) (fun m a b c d f g h i l n o p r t u w y z A B C D E F G H I J K L M N O Q R S T U W Y Z a1 b1 c1 d1 f1 g1 h1 i1 l1 n1 o1 s κ => ptrK c 8 s (fun v0 s => ldV v0 false 1 s (fun v1 s => κ (X52.mk m a b c d v1 g h i l n o p r t u w y z A B C D E F G H I J v0 v1 M N O Q R S T U W Y Z a1 b1 c1 d1 f1 g1 h1 i1 l1 n1 o1) s))) x s κ
theorem r34x13ok : RgOk P false o34x13 T52 r34x13 := fun _ _ x _ _ => by cases x; kernel_rfl
def o34x14 : Array Oper := regO (pth [1, 0, 1, 0, 1, 1, 1, 1, 1, 1, 1, 1, 1, 1, 1, 1, 0] c34v)
def r34x14 : RG X52 := fun call yl x s κ => X52.rec (motive := fun _ => MO X52) (fun m a b c d f g h i l n o p r t u w y z A B C D E F G H I J K L M N O Q R S T U W Y Z a1 b1 c1 d1 f1 g1 h1 i1 l1 n1 o1 s κ => binC g (.i .i64 6) 3 .eql P s (fun v0 s => κ (X52.mk m a b c d f g h i l n o p r t u w y z A B C D E F G H I J K L v0 v0 O Q R S T U W Y Z a1 b1 c1 d1 f1 g1 h1 i1 l1 n1 o1) s)) x s κ
theorem r34x14ok : RgOk P false o34x14 T52 r34x14 := fun _ _ x _ _ => by cases x; kernel_rfl
def o34x15 : Array Oper := regO (pth [1, 0, 1, 0, 1, 1, 1, 1, 1, 1, 1, 1, 1, 1, 1, 1, 1, 0, 0] c34v)
def r34x15 : RG X52 := fun call yl x s κ => X52.rec (motive := fun _ => MO X52) (fun m a b c d f g h i l n o p r t u w y z A B C D E F G H I J K L M N O Q R S T U W Y Z a1 b1 c1 d1 f1 g1 h1 i1 l1 n1 o1 s κ => ptrK c 9 s (fun v0 s => ldV v0 false 1 s (fun v1 s => κ (X52.mk m a b c d v1 g h i l n o p r t u w y z A B C D E F G H I J K L M N v0 v1 R S T U W Y Z a1 b1 c1 d1 f1 g1 h1 i1 l1 n1 o1) s))) x s κ
theorem r34x15ok : RgOk P false o34x15 T52 r34x15 := fun _ _ x _ _ => by cases x; kernel_rfl
def o34x16 : Array Oper := regO (pth [1, 0, 1, 0, 1, 1, 1, 1, 1, 1, 1, 1, 1, 1, 1, 1, 1, 1, 0] c34v)
def r34x16 : RG X52 := fun call yl x s κ => X52.rec (motive := fun _ => MO X52) (fun m a b c d f g h i l n o p r t u w y z A B C D E F G H I J K L M N O Q R S T U W Y Z a1 b1 c1 d1 f1 g1 h1 i1 l1 n1 o1 s κ => binC g (.i .i64 7) 3 .eql P s (fun v0 s => κ (X52.mk m a b c d f g h i l n o p r t u w y z A B C D E F G H I J K L M N O Q v0 v0 T U W Y Z a1 b1 c1 d1 f1 g1 h1 i1 l1 n1 o1) s)) x s κ
theorem r34x16ok : RgOk P false o34x16 T52 r34x16 := fun _ _ x _ _ => by cases x; kernel_rfl
def o34x17 : Array Oper := regO (pth [1, 0, 1, 0, 1, 1, 1, 1, 1, 1, 1, 1, 1, 1, 1, 1, 1, 1, 1, 0, 0] c34v)
def r34x17 : RG X52 := fun call yl x s κ => X52.rec (motive := fun _ => MO X52) (fun m a b c d f g h i l n o p r t u w y z A B C D E F G H I J K L M N O Q R S T U W Y Z a1 b1 c1 d1 f1 g1 h1 i1 l1 n1 o1 s κ => ptrK c 10 s (fun v0 s => ldV v0 false 1 s (fun v1 s => κ (X52.mk m a b c d v1 g h i l n o p r t u w y z A B C D E F G H I J K L M N O Q R S v0 v1 W Y Z a1 b1 c1 d1 f1 g1 h1 i1 l1 n1 o1) s))) x s κ
theorem r34x17ok : RgOk P false o34x17 T52 r34x17 := fun _ _ x _ _ => by cases x; kernel_rfl
def o34x18 : Array Oper := regO (pth [1, 0, 1, 0, 1, 1, 1, 1, 1, 1, 1, 1, 1, 1, 1, 1, 1, 1, 1, 1, 0] c34v)
def r34x18 : RG X52 := fun call yl x s κ => X52.rec (motive := fun _ => MO X52) (fun m a b c d f g h i l n o p r t u w y z A B C D E F G H I J K L M N O Q R S T U W Y Z a1 b1 c1 d1 f1 g1 h1 i1 l1 n1 o1 s κ => binC g (.i .i64 8) 3 .eql P s (fun v0 s => κ (X52.mk m a b c d f g h i l n o p r t u w y z A B C D E F G H I J K L M N O Q R S T U v0 v0 Z a1 b1 c1 d1 f1 g1 h1 i1 l1 n1 o1) s)) x s κ
theorem r34x18ok : RgOk P false o34x18 T52 r34x18 := fun _ _ x _ _ => by cases x; kernel_rfl
def o34x19 : Array Oper := regO (pth [1, 0, 1, 0, 1, 1, 1, 1, 1, 1, 1, 1, 1, 1, 1, 1, 1, 1, 1, 1, 1, 0, 0] c34v)
def r34x19 : RG X52 := fun call yl x s κ => X52.rec (motive := fun _ => MO X52) (fun m a b c d f g h i l n o p r t u w y z A B C D E F G H I J K L M N O Q R S T U W Y Z a1 b1 c1 d1 f1 g1 h1 i1 l1 n1 o1 s κ => ptrK c 11 s (fun v0 s => ldV v0 false 1 s (fun v1 s => κ (X52.mk m a b c d v1 g h i l n o p r t u w y z A B C D E F G H I J K L M N O Q R S T U W Y v0 v1 b1 c1 d1 f1 g1 h1 i1 l1 n1 o1) s))) x s κ
theorem r34x19ok : RgOk P false o34x19 T52 r34x19 := fun _ _ x _ _ => by cases x; kernel_rfl
def o34x20 : Array Oper := regO (pth [1, 0, 1, 0, 1, 1, 1, 1, 1, 1, 1, 1, 1, 1, 1, 1, 1, 1, 1, 1, 1, 1, 0] c34v)
def r34x20 : RG X52 := fun call yl x s κ => X52.rec (motive := fun _ => MO X52) (fun m a b c d f g h i l n o p r t u w y z A B C D E F G H I J K L M N O Q R S T U W Y Z a1 b1 c1 d1 f1 g1 h1 i1 l1 n1 o1 s κ => binC g (.i .i64 11) 3 .eql P s (fun v0 s => κ (X52.mk m a b c d f g h i l n o p r t u w y z A B C D E F G H I J K L M N O Q R S T U W Y Z a1 v0 v0 d1 f1 g1 h1 i1 l1 n1 o1) s)) x s κ
theorem r34x20ok : RgOk P false o34x20 T52 r34x20 := fun _ _ x _ _ => by cases x; kernel_rfl
def o34x21 : Array Oper := regO (pth [1, 0, 1, 0, 1, 1, 1, 1, 1, 1, 1, 1, 1, 1, 1, 1, 1, 1, 1, 1, 1, 1, 1, 0, 0] c34v)
def r34x21 : RG X52 := fun call yl x s κ => X52.rec (motive := fun _ => MO X52) (fun m a b c d f g h i l n o p r t u w y z A B C D E F G H I J K L M N O Q R S T U W Y Z a1 b1 c1 d1 f1 g1 h1 i1 l1 n1 o1 s κ => ptrK c 24 s (fun v0 s => ldV v0 false 1 s (fun v1 s => κ (X52.mk m a b c d v1 g h i l n o p r t u w y z A B C D E F G H I J K L M N O Q R S T U W Y Z a1 b1 c1 v0 v1 g1 h1 i1 l1 n1 o1) s))) x s κ
theorem r34x21ok : RgOk P false o34x21 T52 r34x21 := fun _ _ x _ _ => by cases x; kernel_rfl
def o34x22 : Array Oper := regO (pth [1, 0, 1, 0, 1, 1, 1, 1, 1, 1, 1, 1, 1, 1, 1, 1, 1, 1, 1, 1, 1, 1, 1, 1, 0] c34v)
def r34x22 : RG X52 := fun call yl x s κ => X52.rec (motive := fun _ => MO X52) (fun m a b c d f g h i l n o p r t u w y z A B C D E F G H I J K L M N O Q R S T U W Y Z a1 b1 c1 d1 f1 g1 h1 i1 l1 n1 o1 s κ => binC g (.i .i64 12) 3 .eql P s (fun v0 s => κ (X52.mk m a b c d f g h i l n o p r t u w y z A B C D E F G H I J K L M N O Q R S T U W Y Z a1 b1 c1 d1 f1 v0 v0 i1 l1 n1 o1) s)) x s κ
theorem r34x22ok : RgOk P false o34x22 T52 r34x22 := fun _ _ x _ _ => by cases x; kernel_rfl
def o34x23 : Array Oper := regO (pth [1, 0, 1, 0, 1, 1, 1, 1, 1, 1, 1, 1, 1, 1, 1, 1, 1, 1, 1, 1, 1, 1, 1, 1, 1, 0, 0] c34v)
def r34x23 : RG X52 := fun call yl x s κ => X52.rec (motive := fun _ => MO X52) (fun m a b c d f g h i l n o p r t u w y z A B C D E F G H I J K L M N O Q R S T U W Y Z a1 b1 c1 d1 f1 g1 h1 i1 l1 n1 o1 s κ => ptrK c 25 s (fun v0 s => ldV v0 false 1 s (fun v1 s => κ (X52.mk m a b c d v1 g h i l n o p r t u w y z A B C D E F G H I J K L M N O Q R S T U W Y Z a1 b1 c1 d1 f1 g1 h1 v0 v1 n1 o1) s))) x s κ
theorem r34x23ok : RgOk P false o34x23 T52 r34x23 := fun _ _ x _ _ => by cases x; kernel_rfl
def o34x24 : Array Oper := regO (pth [1, 1, 0] c34v)
def r34x24 : RG X52 := fun call yl x s κ => X52.rec (motive := fun _ => MO X52) (fun m a b c d f g h i l n o p r t u w y z A B C D E F G H I J K L M N O Q R S T U W Y Z a1 b1 c1 d1 f1 g1 h1 i1 l1 n1 o1 s κ => ptrK c 26 s (fun v0 s => ldV v0 false 1 s (fun v1 s => κ (X52.mk m a b c d v1 g h i l n o p r t u w y z A B C D E F G H I J K L M N O Q R S T U W Y Z a1 b1 c1 d1 f1 g1 h1 i1 l1 v0 v1) s))) x s κ
theorem r34x24ok : RgOk P false o34x24 T52 r34x24 := fun _ _ x _ _ => by cases x; kernel_rfl
def S34 : SF X52 := (seqS (regS P t0.fq r34x0) (seqS (seqS (regS P t0.fq r34x1) (blkS 0 (seqS (regS P t0.fq r34x2) (condS (fun x => X52.rec (motive := fun _ => FV) (fun _ _ _ _ _ _ _ z _ _ _ _ _ _ _ _ _ _ _ _ _ _ _ _ _ _ _ _ _ _ _ _ _ _ _ _ _ _ _ _ _ _ _ _ _ _ _ _ _ _ _ _ _ => z) x) (seqS (regS P t0.fq r34x3) retS) (seqS (regS P t0.fq r34x4) (condS (fun x => X52.rec (motive := fun _ => FV) (fun _ _ _ _ _ _ _ _ _ _ _ z _ _ _ _ _ _ _ _ _ _ _ _ _ _ _ _ _ _ _ _ _ _ _ _ _ _ _ _ _ _ _ _ _ _ _ _ _ _ _ _ _ => z) x) (seqS (regS P t0.fq r34x5) retS) (seqS (regS P t0.fq r34x6) (condS (fun x => X52.rec (motive := fun _ => FV) (fun _ _ _ _ _ _ _ _ _ _ _ _ _ _ _ z _ _ _ _ _ _ _ _ _ _ _ _ _ _ _ _ _ _ _ _ _ _ _ _ _ _ _ _ _ _ _ _ _ _ _ _ _ => z) x) (seqS (regS P t0.fq r34x7) retS) (seqS (regS P t0.fq r34x8) (condS (fun x => X52.rec (motive := fun _ => FV) (fun _ _ _ _ _ _ _ _ _ _ _ _ _ _ _ _ _ _ _ z _ _ _ _ _ _ _ _ _ _ _ _ _ _ _ _ _ _ _ _ _ _ _ _ _ _ _ _ _ _ _ _ _ => z) x) (seqS (regS P t0.fq r34x9) retS) (seqS (regS P t0.fq r34x10) (condS (fun x => X52.rec (motive := fun _ => FV) (fun _ _ _ _ _ _ _ _ _ _ _ _ _ _ _ _ _ _ _ _ _ _ _ z _ _ _ _ _ _ _ _ _ _ _ _ _ _ _ _ _ _ _ _ _ _ _ _ _ _ _ _ _ => z) x) (seqS (regS P t0.fq r34x11) retS) (seqS (regS P t0.fq r34x12) (condS (fun x => X52.rec (motive := fun _ => FV) (fun _ _ _ _ _ _ _ _ _ _ _ _ _ _ _ _ _ _ _ _ _ _ _ _ _ _ _ z _ _ _ _ _ _ _ _ _ _ _ _ _ _ _ _ _ _ _ _ _ _ _ _ _ => z) x) (seqS (regS P t0.fq r34x13) retS) (seqS (regS P t0.fq r34x14) (condS (fun x => X52.rec (motive := fun _ => FV) (fun _ _ _ _ _ _ _ _ _ _ _ _ _ _ _ _ _ _ _ _ _ _ _ _ _ _ _ _ _ _ _ z _ _ _ _ _ _ _ _ _ _ _ _ _ _ _ _ _ _ _ _ _ => z) x) (seqS (regS P t0.fq r34x15) retS) (seqS (regS P t0.fq r34x16) (condS (fun x => X52.rec (motive := fun _ => FV) (fun _ _ _ _ _ _ _ _ _ _ _ _ _ _ _ _ _ _ _ _ _ _ _ _ _ _ _ _ _ _ _ _ _ _ _ z _ _ _ _ _ _ _ _ _ _ _ _ _ _ _ _ _ => z) x) (seqS (regS P t0.fq r34x17) retS) (seqS (regS P t0.fq r34x18) (condS (fun x => X52.rec (motive := fun _ => FV) (fun _ _ _ _ _ _ _ _ _ _ _ _ _ _ _ _ _ _ _ _ _ _ _ _ _ _ _ _ _ _ _ _ _ _ _ _ _ _ _ z _ _ _ _ _ _ _ _ _ _ _ _ _ => z) x) (seqS (regS P t0.fq r34x19) retS) (seqS (regS P t0.fq r34x20) (condS (fun x => X52.rec (motive := fun _ => FV) (fun _ _ _ _ _ _ _ _ _ _ _ _ _ _ _ _ _ _ _ _ _ _ _ _ _ _ _ _ _ _ _ _ _ _ _ _ _ _ _ _ _ _ _ z _ _ _ _ _ _ _ _ _ => z) x) (seqS (regS P t0.fq r34x21) retS) (seqS (regS P t0.fq r34x22) (condS (fun x => X52.rec (motive := fun _ => FV) (fun _ _ _ _ _ _ _ _ _ _ _ _ _ _ _ _ _ _ _ _ _ _ _ _ _ _ _ _ _ _ _ _ _ _ _ _ _ _ _ _ _ _ _ _ _ _ _ z _ _ _ _ _ => z) x) (seqS (regS P t0.fq r34x23) retS) skipS)))))))))))))))))))))))) (seqS (regS P t0.fq r34x24) retS)))
theorem S34ok : Sh P t0.fq T52 c34v S34 := by
  have e : c34v = (.seq (.region 0 o34x0 false) (.seq (.seq (.region 1 o34x1 false) (.block 0 (.seq (.region 2 o34x2 false) (.cond (.tmp 6) (.seq (.region 3 o34x3 false) .ret) (.seq (.region 4 o34x4 false) (.cond (.tmp 10) (.seq (.region 5 o34x5 false) .ret) (.seq (.region 6 o34x6 false) (.cond (.tmp 14) (.seq (.region 7 o34x7 false) .ret) (.seq (.region 8 o34x8 false) (.cond (.tmp 18) (.seq (.region 9 o34x9 false) .ret) (.seq (.region 10 o34x10 false) (.cond (.tmp 22) (.seq (.region 11 o34x11 false) .ret) (.seq (.region 12 o34x12 false) (.cond (.tmp 26) (.seq (.region 13 o34x13 false) .ret) (.seq (.region 14 o34x14 false) (.cond (.tmp 30) (.seq (.region 15 o34x15 false) .ret) (.seq (.region 16 o34x16 false) (.cond (.tmp 34) (.seq (.region 17 o34x17 false) .ret) (.seq (.region 18 o34x18 false) (.cond (.tmp 38) (.seq (.region 19 o34x19 false) .ret) (.seq (.region 20 o34x20 false) (.cond (.tmp 42) (.seq (.region 21 o34x21 false) .ret) (.seq (.region 22 o34x22 false) (.cond (.tmp 46) (.seq (.region 23 o34x23 false) .ret) .skip)))))))))))))))))))))))) (.seq (.region 24 o34x24 false) .ret))) := by kernel_rfl
  rw [e]
  exact (sh_seq (sh_reg r34x0ok) (sh_seq (sh_seq (sh_reg r34x1ok) (sh_blk 0 (sh_seq (sh_reg r34x2ok) (sh_cond (fun x => by cases x; rfl) (sh_seq (sh_reg r34x3ok) sh_ret) (sh_seq (sh_reg r34x4ok) (sh_cond (fun x => by cases x; rfl) (sh_seq (sh_reg r34x5ok) sh_ret) (sh_seq (sh_reg r34x6ok) (sh_cond (fun x => by cases x; rfl) (sh_seq (sh_reg r34x7ok) sh_ret) (sh_seq (sh_reg r34x8ok) (sh_cond (fun x => by cases x; rfl) (sh_seq (sh_reg r34x9ok) sh_ret) (sh_seq (sh_reg r34x10ok) (sh_cond (fun x => by cases x; rfl) (sh_seq (sh_reg r34x11ok) sh_ret) (sh_seq (sh_reg r34x12ok) (sh_cond (fun x => by cases x; rfl) (sh_seq (sh_reg r34x13ok) sh_ret) (sh_seq (sh_reg r34x14ok) (sh_cond (fun x => by cases x; rfl) (sh_seq (sh_reg r34x15ok) sh_ret) (sh_seq (sh_reg r34x16ok) (sh_cond (fun x => by cases x; rfl) (sh_seq (sh_reg r34x17ok) sh_ret) (sh_seq (sh_reg r34x18ok) (sh_cond (fun x => by cases x; rfl) (sh_seq (sh_reg r34x19ok) sh_ret) (sh_seq (sh_reg r34x20ok) (sh_cond (fun x => by cases x; rfl) (sh_seq (sh_reg r34x21ok) sh_ret) (sh_seq (sh_reg r34x22ok) (sh_cond (fun x => by cases x; rfl) (sh_seq (sh_reg r34x23ok) sh_ret) sh_skip)))))))))))))))))))))))) (sh_seq (sh_reg r34x24ok) sh_ret)))
def A34 : List FV → Option X52 := fun l => match l with
  | [a, b] => some (X52.mk [] a b .e .e .e .e .e .e .e .e .e .e .e .e .e .e .e .e .e .e .e .e .e .e .e .e .e .e .e .e .e .e .e .e .e .e .e .e .e .e .e .e .e .e .e .e .e .e .e .e .e .e)
  | _ => none
def L34 : LQ := shal P T52 S34 [.tmp 4] 4000 A34
def E34 : LA := evCall P t0.fa 4000 34
theorem G34 : Good P 34 L34 E34 := good_shal all0 (by kernel_rfl) (show FT P 34 = some (c34v, 52, [.tmp 4]) by kernel_rfl) S34ok (fun l x h => by
    unfold A34 at h
    split at h
    · cases h; exact ⟨by kernel_rfl, by kernel_rfl⟩
    · cases h) 4000
def c35v : Code := bodyOf P 35
def o35x0 : Array Oper := regO (pth [0] c35v)
def r35x0 : RG X26 := fun call yl x s κ => X26.rec (motive := fun _ => MO X26) (fun m a b c d f g h i l n o p r t u w y z A B C D E F G H s κ => κ (X26.mk m a b c d (.b false) g h i l n o p r t u w y z A B C D E F G H) s) x s κ
theorem r35x0ok : RgOk P false o35x0 T26 r35x0 := fun _ _ x _ _ => by cases x; kernel_rfl
def o35x1 : Array Oper := regO (pth [1, 0, 0] c35v)
def r35x1 : RG X26 := fun call yl x s κ => X26.rec (motive := fun _ => MO X26) (fun m a b c d f g h i l n o p r t u w y z A B C D E F G H s κ => lenC a P 23 s (fun v0 s => lenC b P 23 s (fun v1 s => binC v0 v1 3 .neq P s (fun v2 s => κ (X26.mk m a b c d f g a v0 b v1 v2 p r t u w y z A B C D E F G H) s)))) x s κ
theorem r35x1ok : RgOk P false o35x1 T26 r35x1 := fun _ _ x _ _ => by cases x; kernel_rfl
def o35x2 : Array Oper := regO (pth [1, 0, 1, 0, 0] c35v)
def r35x2 : RG X26 := fun call yl x s κ => X26.rec (motive := fun _ => MO X26) (fun m a b c d f g h i l n o p r t u w y z A B C D E F G H s κ => κ (X26.mk m a b c d (.b false) g h i l n o p r t u w y z A B C D E F G H) s) x s κ
theorem r35x2ok : RgOk P false o35x2 T26 r35x2 := fun _ _ x _ _ => by cases x; kernel_rfl
def o35x3 : Array Oper := regO (pth [1, 1, 0, 0] c35v)
def r35x3 : RG X26 := fun call yl x s κ => X26.rec (motive := fun _ => MO X26) (fun m a b c d f g h i l n o p r t u w y z A B C D E F G H s κ => κ (X26.mk m a b c d f (.i .i64 0) h i l n o p r t u w y z A B C D E F G H) s) x s κ
theorem r35x3ok : RgOk P false o35x3 T26 r35x3 := fun _ _ x _ _ => by cases x; kernel_rfl
def o35x4 : Array Oper := regO (pth [1, 1, 0, 1, 0, 0, 0, 0] c35v)
def r35x4 : RG X26 := fun call yl x s κ => X26.rec (motive := fun _ => MO X26) (fun m a b c d f g h i l n o p r t u w y z A B C D E F G H s κ => lenC a P 23 s (fun v0 s => binC g v0 3 .lss P s (fun v1 s => κ (X26.mk m a b c d f g h i l n o g a v0 v1 w y z A B C D E F G H) s))) x s κ
theorem r35x4ok : RgOk P false o35x4 T26 r35x4 := fun _ _ x _ _ => by cases x; kernel_rfl
def o35x5 : Array Oper := regO (pth [1, 1, 0, 1, 0, 0, 1, 0, 0, 0] c35v)
def r35x5 : RG X26 := fun call yl x s κ => X26.rec (motive := fun _ => MO X26) (fun m a b c d f g h i l n o p r t u w y z A B C D E F G H s κ => (fun qv0 => (fun qv1 => sandS (fun s κ1 => natK g fun j => iaS a j 1 s (κ1)) s (fun qv2 v3 s => sandS (fun s κ1 => ldV v3 false 1 s (κ1)) s (fun qv4 v5 s => (fun qv6 => (fun qv7 => sandS (fun s κ1 => natK g fun j => iaS b j 1 s (κ1)) s (fun qv8 v9 s => sandS (fun s κ1 => ldV v9 false 1 s (κ1)) s (fun qv10 v11 s => sandS (fun s κ1 => binC v5 v11 3 .neq P s (κ1)) s (fun qv12 v13 s => V.iff (dynA [] [qv0, qv1, qv2, qv4, qv6, qv7, qv8, qv10, qv12] [[], [true], [false, false], [false, false, false], [true, true, true, true], [true, true, true, true, true], [true, true, true, true, false, false], [true, true, true, true, false, false, false], [false, false, false, false, false, false, false, false]]) (κ (X26.mk m a b c d f g h i l n o p r t u w y a g v3 v5 b g v9 v11 v13) s))))) (qz s)) (qz s)))) (qz s)) (qz s)) x s κ
theorem r35x5ok : RgOk P true o35x5 T26 r35x5 := fun _ _ x _ _ => by cases x; kernel_rfl
def o35x6 : Array Oper := regO (pth [1, 1, 0, 1, 0, 0, 1, 0, 0, 1, 0, 0] c35v)
def r35x6 : RG X26 := fun call yl x s κ => X26.rec (motive := fun _ => MO X26) (fun m a b c d f g h i l n o p r t u w y z A B C D E F G H s κ => κ (X26.mk m a b c d (.b false) g h i l n o p r t u w y z A B C D E F G H) s) x s κ
theorem r35x6ok : RgOk P false o35x6 T26 r35x6 := fun _ _ x _ _ => by cases x; kernel_rfl
def o35x7 : Array Oper := regO (pth [1, 1, 0, 1, 0, 0, 1, 1] c35v)
def r35x7 : RG X26 := fun call yl x s κ => X26.rec (motive := fun _ => MO X26) (fun m a b c d f g h i l n o p r t u w y z A B C D E F G H s κ => binC g (.i .i64 1) 3 .add P s (fun v0 s => κ (X26.mk m a b c d f v0 h i l n o p r t u g v0 z A B C D E F G H) s)) x s κ
theorem r35x7ok : RgOk P false o35x7 T26 r35x7 := fun _ _ x _ _ => by cases x; kernel_rfl
def o35x8 : Array Oper := regO (pth [1, 1, 1, 0] c35v)
def r35x8 : RG X26 := fun call yl x s κ => X26.rec (motive := fun _ => MO X26) (fun m a b c d f g h i l n o p r t u w y z A B C D E F G H s κ => κ (X26.mk m a b c d (.b true) g h i l n o p r t u w y z A B C D E F G H) s) x s κ
theorem r35x8ok : RgOk P false o35x8 T26 r35x8 := fun _ _ x _ _ => by cases x; kernel_rfl
def S35 : SF X26 := (seqS (regS P t0.fq r35x0) (seqS (seqS (regS P t0.fq r35x1) (condS (fun x => X26.rec (motive := fun _ => FV) (fun _ _ _ _ _ _ _ _ _ _ _ z _ _ _ _ _ _ _ _ _ _ _ _ _ _ _ => z) x) (seqS (regS P t0.fq r35x2) retS) skipS)) (seqS (seqS (regS P t0.fq r35x3) (blkS 0 (loopS (seqS (seqS (regS P t0.fq r35x4) (condS (fun x => X26.rec (motive := fun _ => FV) (fun _ _ _ _ _ _ _ _ _ _ _ _ _ _ _ z _ _ _ _ _ _ _ _ _ _ _ => z) x) skipS (exitS 0))) (seqS (blkS 1 (seqS (regS P t0.fq r35x5) (condS (fun x => X26.rec (motive := fun _ => FV) (fun _ _ _ _ _ _ _ _ _ _ _ _ _ _ _ _ _ _ _ _ _ _ _ _ _ _ z => z) x) (seqS (regS P t0.fq r35x6) retS) skipS))) (regS P t0.fq r35x7)))))) (seqS (regS P t0.fq r35x8) retS))))
theorem S35ok : Sh P t0.fq T26 c35v S35 := by
  have e : c35v = (.seq (.region 0 o35x0 false) (.seq (.seq (.region 1 o35x1 false) (.cond (.tmp 10) (.seq (.region 2 o35x2 false) .ret) .skip)) (.seq (.seq (.region 3 o35x3 false) (.block 0 (.loop (.seq (.seq (.region 4 o35x4 false) (.cond (.tmp 14) .skip (.exit 0))) (.seq (.block 1 (.seq (.region 6 o35x5 true) (.cond (.tmp 25) (.seq (.region 7 o35x6 false) .ret) .skip))) (.region 5 o35x7 false)))))) (.seq (.region 8 o35x8 false) .ret)))) := by kernel_rfl
  rw [e]
  exact (sh_seq (sh_reg r35x0ok) (sh_seq (sh_seq (sh_reg r35x1ok) (sh_cond (fun x => by cases x; rfl) (sh_seq (sh_reg r35x2ok) sh_ret) sh_skip)) (sh_seq (sh_seq (sh_reg r35x3ok) (sh_blk 0 (sh_loop (sh_seq (sh_seq (sh_reg r35x4ok) (sh_cond (fun x => by cases x; rfl) sh_skip (sh_exit 0))) (sh_seq (sh_blk 1 (sh_seq (sh_reg r35x5ok) (sh_cond (fun x => by cases x; rfl) (sh_seq (sh_reg r35x6ok) sh_ret) sh_skip))) (sh_reg r35x7ok)))))) (sh_seq (sh_reg r35x8ok) sh_ret))))
def A35 : List FV → Option X26 := fun l => match l with
  | [a, b] => some (X26.mk [] a b .e .e .e .e .e .e .e .e .e .e .e .e .e .e .e .e .e .e .e .e .e .e .e .e)
  | _ => none
def L35 : LQ := shal P T26 S35 [.tmp 4] 4000 A35
def E35 : LA := evCall P t0.fa 4000 35
theorem G35 : Good P 35 L35 E35 := good_shal all0 (by kernel_rfl) (show FT P 35 = some (c35v, 26, [.tmp 4]) by kernel_rfl) S35ok (fun l x h => by
    unfold A35 at h
    split at h
    · cases h; exact ⟨by kernel_rfl, by kernel_rfl⟩
    · cases h) 4000
inductive X9 where
  | mk (m : List Nat) (a b c d f g h i l : FV)
def T9 (x : X9) : FF := X9.rec (motive := fun _ => FF) (fun m a b c d f g h i l => ⟨(.n a (.n b (.n g .e .e .e .e) .e .e .e) (.n c (.n h .e .e .e .e) .e .e .e) (.n d (.n i .e .e .e .e) .e .e .e) (.n f (.n l .e .e .e .e) .e .e .e)), 9, m⟩) x
def c39v : Code := bodyOf P 39
def o39x0 : Array Oper := regO (pth [0] c39v)
def r39x0 : RG X9 := fun call yl x s κ => X9.rec (motive := fun _ => MO X9) (fun m a b c d f g h i l s κ => κ (X9.mk m a b (.b false) d f g h i l) s) x s κ
theorem r39x0ok : RgOk P false o39x0 T9 r39x0 := fun _ _ x _ _ => by cases x; kernel_rfl
def o39x1 : Array Oper := regO (pth [1, 0] c39v)
def r39x1 : RG X9 := fun call yl x s κ => X9.rec (motive := fun _ => MO X9) (fun m a b c d f g h i l s κ => binC a (.i .i64 0) 3 .geq P s (fun v0 s => bnk (fun κ1 => wantC v0 true (κ1 a s) (κ1 .e s)) (fun v1 s => bnk (fun κ1 => wantC v0 true (binC v1 (.i .i64 16) 3 .lss P s (κ1)) (κ1 .e s)) (fun v2 s => bnk (fun κ0 => condB v0 (κ0 v2 s) (κ0 (.b false) s)) (fun v3 s => κ (X9.mk m a b v3 a v0 v0 v1 v2 v3) s))))) x s κ
theorem r39x1ok : RgOk P false o39x1 T9 r39x1 := fun _ _ x _ _ => by cases x; kernel_rfl
def S39 : SF X9 := (seqS (regS P t0.fq r39x0) (seqS (regS P t0.fq r39x1) retS))
theorem S39ok : Sh P t0.fq T9 c39v S39 := by
  have e : c39v = (.seq (.region 0 o39x0 false) (.seq (.region 1 o39x1 false) .ret)) := by kernel_rfl
  rw [e]
  exact (sh_seq (sh_reg r39x0ok) (sh_seq (sh_reg r39x1ok) sh_ret))
def A39 : List FV → Option X9 := fun l => match l with
  | [a] => some (X9.mk [] a .e .e .e .e .e .e .e .e)
  | _ => none
def L39 : LQ := shal P T9 S39 [.tmp 2] 4000 A39
def E39 : LA := evCall P t0.fa 4000 39
theorem G39 : Good P 39 L39 E39 := good_shal all0 (by kernel_rfl) (show FT P 39 = some (c39v, 9, [.tmp 2]) by kernel_rfl) S39ok (fun l x h => by
    unfold A39 at h
    split at h
    · cases h; exact ⟨by kernel_rfl, by kernel_rfl⟩
    · cases h) 4000
inductive X40 where
  | mk (m : List Nat) (a b c d f g h i l n o p r t u w y z A B C D E F G H I J K L M N O Q R S T U W Y : FV)
def T40 (x : X40) : FF := X40.rec (motive := fun _ => FF) (fun m a b c d f g h i l n o p r t u w y z A B C D E F G H I J K L M N O Q R S T U W Y => ⟨(.n a (.n b (.n g (.n D .e .e .e .e) (.n U .e .e .e .e) .e .e) (.n n (.n H .e .e .e .e) .e .e .e) (.n t (.n L .e .e .e .e) .e .e .e) (.n z (.n Q .e .e .e .e) .e .e .e)) (.n c (.n h (.n E .e .e .e .e) (.n W .e .e .e .e) .e .e) (.n o (.n I .e .e .e .e) .e .e .e) (.n u (.n M .e .e .e .e) .e .e .e) (.n A (.n R .e .e .e .e) .e .e .e)) (.n d (.n i (.n F .e .e .e .e) (.n Y .e .e .e .e) .e .e) (.n p (.n J .e .e .e .e) .e .e .e) (.n w (.n N .e .e .e .e) .e .e .e) (.n B (.n S .e .e .e .e) .e .e .e)) (.n f (.n l (.n G .e .e .e .e) .e .e .e) (.n r (.n K .e .e .e .e) .e .e .e) (.n y (.n O .e .e .e .e) .e .e .e) (.n C (.n T .e .e .e .e) .e .e .e))), 40, m⟩) x
def c41v : Code := bodyOf P 41
def o41x0 : Array Oper := regO (pth [0] c41v)
def r41x0 : RG X40 := fun call yl x s κ => X40.rec (motive := fun _ => MO X40) (fun m a b c d f g h i l n o p r t u w y z A B C D E F G H I J K L M N O Q R S T U W Y s κ => allocC P 88 s (fun v0 s => κ (X40.mk m a b v0 d f g h i l n o p r t u w y z A B C D E F G H I J K L M N O Q R S T U W Y) s)) x s κ
theorem r41x0ok : RgOk P false o41x0 T40 r41x0 := fun _ _ x _ _ => by cases x; kernel_rfl
def o41x1 : Array Oper := regO (pth [1, 0] c41v)
def r41x1 : RG X40 := fun call yl x s κ => X40.rec (motive := fun _ => MO X40) (fun m a b c d f g h i l n o p r t u w y z A B C D E F G H I J K L M N O Q R S T U W Y s κ => (fun qv0 => sandS (fun s κ1 => nilC a s (κ1)) s (fun qv1 v2 s => sandS (fun s κ1 => ptrK v2 3 s (κ1)) s (fun qv3 v4 s => (fun qv5 => sandS (fun s κ1 => nilC a s (κ1)) s (fun qv6 v7 s => sandS (fun s κ1 => ptrK v7 4 s (κ1)) s (fun qv8 v9 s => (fun qv10 => sandS (fun s κ1 => nilC a s (κ1)) s (fun qv11 v12 s => sandS (fun s κ1 => ptrK v12 5 s (κ1)) s (fun qv13 v14 s => (fun qv15 => sandS (fun s κ1 => nilC a s (κ1)) s (fun qv16 v17 s => sandS (fun s κ1 => ptrK v17 6 s (κ1)) s (fun qv18 v19 s => (fun qv20 => sandS (fun s κ1 => nilC a s (κ1)) s (fun qv21 v22 s => sandS (fun s κ1 => ptrK v22 7 s (κ1)) s (fun qv23 v24 s => (fun qv25 => sandS (fun s κ1 => nilC a s (κ1)) s (fun qv26 v27 s => sandS (fun s κ1 => ptrK v27 8 s (κ1)) s (fun qv28 v29 s => (fun qv30 => sandS (fun s κ1 => nilC a s (κ1)) s (fun qv31 v32 s => sandS (fun s κ1 => ptrK v32 9 s (κ1)) s (fun qv33 v34 s => (fun qv35 => sandS (fun s κ1 => nilC a s (κ1)) s (fun qv36 v37 s => sandS (fun s κ1 => ptrK v37 10 s (κ1)) s (fun qv38 v39 s => (fun qv40 => sandS (fun s κ1 => nilC a s (κ1)) s (fun qv41 v42 s => sandS (fun s κ1 => ptrK v42 11 s (κ1)) s (fun qv43 v44 s => (fun qv45 => sandS (fun s κ1 => nilC a s (κ1)) s (fun qv46 v47 s => sandS (fun s κ1 => ptrK v47 24 s (κ1)) s (fun qv48 v49 s => (fun qv50 => sandS (fun s κ1 => nilC a s (κ1)) s (fun qv51 v52 s => sandS (fun s κ1 => ptrK v52 25 s (κ1)) s (fun qv53 v54 s => (fun qv55 => sandS (fun s κ1 => nilC a s (κ1)) s (fun qv56 v57 s => sandS (fun s κ1 => ptrK v57 26 s (κ1)) s (fun qv58 v59 s => sandS (fun s κ1 => buildC P 88 [(0, v4), (1, v9), (2, v14), (3, v19), (4, v24), (5, v29), (6, v34), (7, v39), (8, v44), (11, v49), (12, v54), (13, v59)] s (κ1)) s (fun qv60 v61 s => sandS (fun s κ1 => stA c v61 17 s (κ1)) s (fun qv62 v63 s => V.iff (dynA [] [qv0, qv1, qv3, qv5, qv6, qv8, qv10, qv11, qv13, qv15, qv16, qv18, qv20, qv21, qv23, qv25, qv26, qv28, qv30, qv31, qv33, qv35, qv36, qv38, qv40, qv41, qv43, qv45, qv46, qv48, qv50, qv51, qv53, qv55, qv56, qv58, qv60, qv62] [[], [false], [false, false], [true, true, true], [true, true, true, false], [true, true, true, false, false], [true, true, true, true, true, true], [true, true, true, true, true, true, false], [true, true, true, true, true, true, false, false], [true, true, true, true, true, true, true, true, true], [true, true, true, true, true, true, true, true, true, false], [true, true, true, true, true, true, true, true, true, false, false], [true, true, true, true, true, true, true, true, true, true, true, true], [true, true, true, true, true, true, true, true, true, true, true, true, false], [true, true, true, true, true, true, true, true, true, true, true, true, false, false], [true, true, true, true, true, true, true, true, true, true, true, true, true, true, true], [true, true, true, true, true, true, true, true, true, true, true, true, true, true, true, false], [true, true, true, true, true, true, true, true, true, true, true, true, true, true, true, false, false], [true, true, true, true, true, true, true, true, true, true, true, true, true, true, true, true, true, true], [true, true, true, true, true, true, true, true, true, true, true, true, true, true, true, true, true, true, false], [true, true, true, true, true, true, true, true, true, true, true, true, true, true, true, true, true, true, false, false], [true, true, true, true, true, true, true, true, true, true, true, true, true, true, true, true, true, true, true, true, true], [true, true, true, true, true, true, true, true, true, true, true, true, true, true, true, true, true, true, true, true, true, false], [true, true, true, true, true, true, true, true, true, true, true, true, true, true, true, true, true, true, true, true, true, false, false], [true, true, true, true, true, true, true, true, true, true, true, true, true, true, true, true, true, true, true, true, true, true, true, true], [true, true, true, true, true, true, true, true, true, true, true, true, true, true, true, true, true, true, true, true, true, true, true, true, false], [true, true, true, true, true, true, true, true, true, true, true, true, true, true, true, true, true, true, true, true, true, true, true, true, false, false], [true, true, true, true, true, true, true, true, true, true, true, true, true, true, true, true, true, true, true, true, true, true, true, true, true, true, true], [true, true, true, true, true, true, true, true, true, true, true, true, true, true, true, true, true, true, true, true, true, true, true, true, true, true, true, false], [true, true, true, true, true, true, true, true, true, true, true, true, true, true, true, true, true, true, true, true, true, true, true, true, true, true, true, false, false], [true, true, true, true, true, true, true, true, true, true, true, true, true, true, true, true, true, true, true, true, true, true, true, true, true, true, true, true, true, true], [true, true, true, true, true, true, true, true, true, true, true, true, true, true, true, true, true, true, true, true, true, true, true, true, true, true, true, true, true, true, false], [true, true, true, true, true, true, true, true, true, true, true, true, true, true, true, true, true, true, true, true, true, true, true, true, true, true, true, true, true, true, false, false], [true, true, true, true, true, true, true, true, true, true, true, true, true, true, true, true, true, true, true, true, true, true, true, true, true, true, true, true, true, true, true, true, true], [true, true, true, true, true, true, true, true, true, true, true, true, true, true, true, true, true, true, true, true, true, true, true, true, true, true, true, true, true, true, true, true, true, false], [true, true, true, true, true, true, true, true, true, true, true, true, true, true, true, true, true, true, true, true, true, true, true, true, true, true, true, true, true, true, true, true, true, false, false], [false, false, false, false, false, false, false, false, false, false, false, false, false, false, false, false, false, false, false, false, false, false, false, false, false, false, false, false, false, false, false, false, false, false, false, false], [false, false, false, false, false, false, false, false, false, false, false, false, false, false, false, false, false, false, false, false, false, false, false, false, false, false, false, false, false, false, false, false, false, false, false, false, false]]) (κ (X40.mk m a b c a v2 v4 a v7 v9 a v12 v14 a v17 v19 a v22 v24 a v27 v29 a v32 v34 a v37 v39 a v42 v44 a v47 v49 a v52 v54 a v57 v59 v61) s)))))) (qz s)))) (qz s)))) (qz s)))) (qz s)))) (qz s)))) (qz s)))) (qz s)))) (qz s)))) (qz s)))) (qz s)))) (qz s)))) (qz s)) x s κ
theorem r41x1ok : RgOk P true o41x1 T40 r41x1 := fun _ _ x _ _ => by cases x; kernel_rfl
def S41 : SF X40 := (seqS (regS P t0.fq r41x0) (seqS (regS P t0.fq r41x1) retS))
theorem S41ok : Sh P t0.fq T40 c41v S41 := by
  have e : c41v = (.seq (.region 0 o41x0 false) (.seq (.region 1 o41x1 true) .ret)) := by kernel_rfl
  rw [e]
  exact (sh_seq (sh_reg r41x0ok) (sh_seq (sh_reg r41x1ok) sh_ret))
def A41 : List FV → Option X40 := fun l => match l with
  | [a] => some (X40.mk [] a .e .e .e .e .e .e .e .e .e .e .e .e .e .e .e .e .e .e .e .e .e .e .e .e .e .e .e .e .e .e .e .e .e .e .e .e .e .e .e)
  | _ => none
def L41 : LQ := shal P T40 S41 [.cell 2 88] 4000 A41
def E41 : LA := evCall P t0.fa 4000 41
theorem G41 : Good P 41 L41 E41 := good_shal all0 (by kernel_rfl) (show FT P 41 = some (c41v, 40, [.cell 2 88]) by kernel_rfl) S41ok (fun l x h => by
    unfold A41 at h
    split at h
    · cases h; exact ⟨by kernel_rfl, by kernel_rfl⟩
    · cases h) 4000
def c42v : Code := bodyOf P 42
def o42x0 : Array Oper := regO (pth [0] c42v)
def r42x0 : RG X26 := fun call yl x s κ => X26.rec (motive := fun _ => MO X26) (fun m a b c d f g h i l n o p r t u w y z A B C D E F G H s κ => κ (X26.mk m a b c d (.b false) g h i l n o p r t u w y z A B C D E F G H) s) x s κ
theorem r42x0ok : RgOk P false o42x0 T26 r42x0 := fun _ _ x _ _ => by cases x; kernel_rfl
def o42x1 : Array Oper := regO (pth [1, 0, 0] c42v)
def r42x1 : RG X26 := fun call yl x s κ => X26.rec (motive := fun _ => MO X26) (fun m a b c d f g h i l n o p r t u w y z A B C D E F G H s κ => lenC a P 23 s (fun v0 s => lenC b P 23 s (fun v1 s => binC v0 v1 3 .neq P s (fun v2 s => κ (X26.mk m a b c d f g a v0 b v1 v2 p r t u w y z A B C D E F G H) s)))) x s κ
theorem r42x1ok : RgOk P false o42x1 T26 r42x1 := fun _ _ x _ _ => by cases x; kernel_rfl
def o42x2 : Array Oper := regO (pth [1, 0, 1, 0, 0] c42v)
def r42x2 : RG X26 := fun call yl x s κ => X26.rec (motive := fun _ => MO X26) (fun m a b c d f g h i l n o p r t u w y z A B C D E F G H s κ => κ (X26.mk m a b c d (.b false) g h i l n o p r t u w y z A B C D E F G H) s) x s κ
theorem r42x2ok : RgOk P false o42x2 T26 r42x2 := fun _ _ x _ _ => by cases x; kernel_rfl
def o42x3 : Array Oper := regO (pth [1, 1, 0, 0] c42v)
def r42x3 : RG X26 := fun call yl x s κ => X26.rec (motive := fun _ => MO X26) (fun m a b c d f g h i l n o p r t u w y z A B C D E F G H s κ => lenC a P 23 s (fun v0 s => κ (X26.mk m a b c d f g h i l n o a v0 (.i .i64 0) u w y z A B C D E F G H) s)) x s κ
theorem r42x3ok : RgOk P false o42x3 T26 r42x3 := fun _ _ x _ _ => by cases x; kernel_rfl
def o42x4 : Array Oper := regO (pth [1, 1, 0, 1, 0, 0, 0] c42v)
def r42x4 : RG X26 := fun call yl x s κ => X26.rec (motive := fun _ => MO X26) (fun m a b c d f g h i l n o p r t u w y z A B C D E F G H s κ => binC t r 3 .lss P s (fun v0 s => κ (X26.mk m a b c d f g h i l n o p r t v0 w y z A B C D E F G H) s)) x s κ
theorem r42x4ok : RgOk P false o42x4 T26 r42x4 := fun _ _ x _ _ => by cases x; kernel_rfl
def o42x5 : Array Oper := regO (pth [1, 1, 0, 1, 0, 0, 1, 1, 0, 0, 0] c42v)
def r42x5 : RG X26 := fun call yl x s κ => X26.rec (motive := fun _ => MO X26) (fun m a b c d f g h i l n o p r t u w y z A B C D E F G H s κ => κ (X26.mk m a b c d f t h i l n o p r t u t y z A B C D E F G H) s) x s κ
theorem r42x5ok : RgOk P false o42x5 T26 r42x5 := fun _ _ x _ _ => by cases x; kernel_rfl
def o42x6 : Array Oper := regO (pth [1, 1, 0, 1, 0, 0, 1, 1, 0, 0, 1, 0] c42v)
def r42x6 : RG X26 := fun call yl x s κ => X26.rec (motive := fun _ => MO X26) (fun m a b c d f g h i l n o p r t u w y z A B C D E F G H s κ => (fun qv0 => (fun qv1 => sandS (fun s κ1 => natK g fun j => iaS a j 1 s (κ1)) s (fun qv2 v3 s => sandS (fun s κ1 => ldV v3 false 1 s (κ1)) s (fun qv4 v5 s => (fun qv6 => (fun qv7 => sandS (fun s κ1 => natK g fun j => iaS b j 1 s (κ1)) s (fun qv8 v9 s => sandS (fun s κ1 => ldV v9 false 1 s (κ1)) s (fun qv10 v11 s => sandS (fun s κ1 => binC v5 v11 3 .neq P s (κ1)) s (fun qv12 v13 s => V.iff (dynA [] [qv0, qv1, qv2, qv4, qv6, qv7, qv8, qv10, qv12] [[], [true], [false, false], [false, false, false], [true, true, true, true], [true, true, true, true, true], [true, true, true, true, false, false], [true, true, true, true, false, false, false], [false, false, false, false, false, false, false, false]]) (κ (X26.mk m a b c d f g h i l n o p r t u w a g v3 v5 b g v9 v11 v13 H) s))))) (qz s)) (qz s)))) (qz s)) (qz s)) x s κ
theorem r42x6ok : RgOk P true o42x6 T26 r42x6 := fun _ _ x _ _ => by cases x; kernel_rfl
def o42x7 : Array Oper := regO (pth [1, 1, 0, 1, 0, 0, 1, 1, 0, 0, 1, 1, 0, 0] c42v)
def r42x7 : RG X26 := fun call yl x s κ => X26.rec (motive := fun _ => MO X26) (fun m a b c d f g h i l n o p r t u w y z A B C D E F G H s κ => κ (X26.mk m a b c d (.b false) g h i l n o p r t u w y z A B C D E F G H) s) x s κ
theorem r42x7ok : RgOk P false o42x7 T26 r42x7 := fun _ _ x _ _ => by cases x; kernel_rfl
def o42x8 : Array Oper := regO (pth [1, 1, 0, 1, 0, 0, 1, 1, 1] c42v)
def r42x8 : RG X26 := fun call yl x s κ => X26.rec (motive := fun _ => MO X26) (fun m a b c d f g h i l n o p r t u w y z A B C D E F G H s κ => binC t (.i .i64 1) 3 .add P s (fun v0 s => κ (X26.mk m a b c d f g h i l n o p r v0 u w y z A B C D E F G v0) s)) x s κ
theorem r42x8ok : RgOk P false o42x8 T26 r42x8 := fun _ _ x _ _ => by cases x; kernel_rfl
def o42x9 : Array Oper := regO (pth [1, 1, 1, 0] c42v)
def r42x9 : RG X26 := fun call yl x s κ => X26.rec (motive := fun _ => MO X26) (fun m a b c d f g h i l n o p r t u w y z A B C D E F G H s κ => κ (X26.mk m a b c d (.b true) g h i l n o p r t u w y z A B C D E F G H) s) x s κ
theorem r42x9ok : RgOk P false o42x9 T26 r42x9 := fun _ _ x _ _ => by cases x; kernel_rfl
def S42 : SF X26 := (seqS (regS P t0.fq r42x0) (seqS (seqS (regS P t0.fq r42x1) (condS (fun x => X26.rec (motive := fun _ => FV) (fun _ _ _ _ _ _ _ _ _ _ _ z _ _ _ _ _ _ _ _ _ _ _ _ _ _ _ => z) x) (seqS (regS P t0.fq r42x2) retS) skipS)) (seqS (seqS (regS P t0.fq r42x3) (blkS 0 (loopS (seqS (regS P t0.fq r42x4) (seqS (condS (fun x => X26.rec (motive := fun _ => FV) (fun _ _ _ _ _ _ _ _ _ _ _ _ _ _ _ z _ _ _ _ _ _ _ _ _ _ _ => z) x) skipS (exitS 0)) (seqS (blkS 1 (seqS (regS P t0.fq r42x5) (seqS (regS P t0.fq r42x6) (condS (fun x => X26.rec (motive := fun _ => FV) (fun _ _ _ _ _ _ _ _ _ _ _ _ _ _ _ _ _ _ _ _ _ _ _ _ _ z _ => z) x) (seqS (regS P t0.fq r42x7) retS) skipS)))) (regS P t0.fq r42x8))))))) (seqS (regS P t0.fq r42x9) retS))))
theorem S42ok : Sh P t0.fq T26 c42v S42 := by
  have e : c42v = (.seq (.region 0 o42x0 false) (.seq (.seq (.region 1 o42x1 false) (.cond (.tmp 10) (.seq (.region 2 o42x2 false) .ret) .skip)) (.seq (.seq (.region 3 o42x3 false) (.block 0 (.loop (.seq (.region 4 o42x4 false) (.seq (.cond (.tmp 14) .skip (.exit 0)) (.seq (.block 1 (.seq (.region 5 o42x5 false) (.seq (.region 6 o42x6 true) (.cond (.tmp 24) (.seq (.region 7 o42x7 false) .ret) .skip)))) (.region 8 o42x8 false))))))) (.seq (.region 9 o42x9 false) .ret)))) := by kernel_rfl
  rw [e]
  exact (sh_seq (sh_reg r42x0ok) (sh_seq (sh_seq (sh_reg r42x1ok) (sh_cond (fun x => by cases x; rfl) (sh_seq (sh_reg r42x2ok) sh_ret) sh_skip)) (sh_seq (sh_seq (sh_reg r42x3ok) (sh_blk 0 (sh_loop (sh_seq (sh_reg r42x4ok) (sh_seq (sh_cond (fun x => by cases x; rfl) sh_skip (sh_exit 0)) (sh_seq (sh_blk 1 (sh_seq (sh_reg r42x5ok) (sh_seq (sh_reg r42x6ok) (sh_cond (fun x => by cases x; rfl) (sh_seq (sh_reg r42x7ok) sh_ret) sh_skip)))) (sh_reg r42x8ok))))))) (sh_seq (sh_reg r42x9ok) sh_ret))))
def A42 : List FV → Option X26 := fun l => match l with
  | [a, b] => some (X26.mk [] a b .e .e .e .e .e .e .e .e .e .e .e .e .e .e .e .e .e .e .e .e .e .e .e .e)
  | _ => none
def L42 : LQ := shal P T26 S42 [.tmp 4] 4000 A42
def E42 : LA := evCall P t0.fa 4000 42
theorem G42 : Good P 42 L42 E42 := good_shal all0 (by kernel_rfl) (show FT P 42 = some (c42v, 26, [.tmp 4]) by kernel_rfl) S42ok (fun l x h => by
    unfold A42 at h
    split at h
    · cases h; exact ⟨by kernel_rfl, by kernel_rfl⟩
    · cases h) 4000
def c43v : Code := bodyOf P 43
def o43x0 : Array Oper := regO (pth [0] c43v)
def r43x0 : RG X26 := fun call yl x s κ => X26.rec (motive := fun _ => MO X26) (fun m a b c d f g h i l n o p r t u w y z A B C D E F G H s κ => κ (X26.mk m a b c d (.b false) g h i l n o p r t u w y z A B C D E F G H) s) x s κ
theorem r43x0ok : RgOk P false o43x0 T26 r43x0 := fun _ _ x _ _ => by cases x; kernel_rfl
def o43x1 : Array Oper := regO (pth [1, 0, 0] c43v)
def r43x1 : RG X26 := fun call yl x s κ => X26.rec (motive := fun _ => MO X26) (fun m a b c d f g h i l n o p r t u w y z A B C D E F G H s κ => lenC a P 32 s (fun v0 s => lenC b P 32 s (fun v1 s => binC v0 v1 3 .neq P s (fun v2 s => κ (X26.mk m a b c d f g a v0 b v1 v2 p r t u w y z A B C D E F G H) s)))) x s κ
theorem r43x1ok : RgOk P false o43x1 T26 r43x1 := fun _ _ x _ _ => by cases x; kernel_rfl
def o43x2 : Array Oper := regO (pth [1, 0, 1, 0, 0] c43v)
def r43x2 : RG X26 := fun call yl x s κ => X26.rec (motive := fun _ => MO X26) (fun m a b c d f g h i l n o p r t u w y z A B C D E F G H s κ => κ (X26.mk m a b c d (.b false) g h i l n o p r t u w y z A B C D E F G H) s) x s κ
theorem r43x2ok : RgOk P false o43x2 T26 r43x2 := fun _ _ x _ _ => by cases x; kernel_rfl
def o43x3 : Array Oper := regO (pth [1, 1, 0, 0] c43v)
def r43x3 : RG X26 := fun call yl x s κ => X26.rec (motive := fun _ => MO X26) (fun m a b c d f g h i l n o p r t u w y z A B C D E F G H s κ => lenC a P 32 s (fun v0 s => κ (X26.mk m a b c d f g h i l n o a v0 (.i .i64 0) u w y z A B C D E F G H) s)) x s κ
theorem r43x3ok : RgOk P false o43x3 T26 r43x3 := fun _ _ x _ _ => by cases x; kernel_rfl
def o43x4 : Array Oper := regO (pth [1, 1, 0, 1, 0, 0, 0] c43v)
def r43x4 : RG X26 := fun call yl x s κ => X26.rec (motive := fun _ => MO X26) (fun m a b c d f g h i l n o p r t u w y z A B C D E F G H s κ => binC t r 3 .lss P s (fun v0 s => κ (X26.mk m a b c d f g h i l n o p r t v0 w y z A B C D E F G H) s)) x s κ
theorem r43x4ok : RgOk P false o43x4 T26 r43x4 := fun _ _ x _ _ => by cases x; kernel_rfl
def o43x5 : Array Oper := regO (pth [1, 1, 0, 1, 0, 0, 1, 1, 0, 0, 0] c43v)
def r43x5 : RG X26 := fun call yl x s κ => X26.rec (motive := fun _ => MO X26) (fun m a b c d f g h i l n o p r t u w y z A B C D E F G H s κ => κ (X26.mk m a b c d f t h i l n o p r t u t y z A B C D E F G H) s) x s κ
theorem r43x5ok : RgOk P false o43x5 T26 r43x5 := fun _ _ x _ _ => by cases x; kernel_rfl
def o43x6 : Array Oper := regO (pth [1, 1, 0, 1, 0, 0, 1, 1, 0, 0, 1, 0] c43v)
def r43x6 : RG X26 := fun call yl x s κ => X26.rec (motive := fun _ => MO X26) (fun m a b c d f g h i l n o p r t u w y z A B C D E F G H s κ => (fun qv0 => (fun qv1 => sandS (fun s κ1 => natK g fun j => iaS a j 5 s (κ1)) s (fun qv2 v3 s => sandS (fun s κ1 => ldV v3 true 5 s (κ1)) s (fun qv4 v5 s => (fun qv6 => (fun qv7 => sandS (fun s κ1 => natK g fun j => iaS b j 5 s (κ1)) s (fun qv8 v9 s => sandS (fun s κ1 => ldV v9 true 5 s (κ1)) s (fun qv10 v11 s => sandS (fun s κ1 => binC v5 v11 29 .neq P s (κ1)) s (fun qv12 v13 s => V.iff (dynA [] [qv0, qv1, qv2, qv4, qv6, qv7, qv8, qv10, qv12] [[], [true], [false, false], [false, false, false], [true, true, true, true], [true, true, true, true, true], [true, true, true, true, false, false], [true, true, true, true, false, false, false], [false, false, false, false, false, false, false, false]]) (κ (X26.mk m a b c d f g h i l n o p r t u w a g v3 v5 b g v9 v11 v13 H) s))))) (qz s)) (qz s)))) (qz s)) (qz s)) x s κ
theorem r43x6ok : RgOk P true o43x6 T26 r43x6 := fun _ _ x _ _ => by cases x; kernel_rfl
def o43x7 : Array Oper := regO (pth [1, 1, 0, 1, 0, 0, 1, 1, 0, 0, 1, 1, 0, 0] c43v)
def r43x7 : RG X26 := fun call yl x s κ => X26.rec (motive := fun _ => MO X26) (fun m a b c d f g h i l n o p r t u w y z A B C D E F G H s κ => κ (X26.mk m a b c d (.b false) g h i l n o p r t u w y z A B C D E F G H) s) x s κ
theorem r43x7ok : RgOk P false o43x7 T26 r43x7 := fun _ _ x _ _ => by cases x; kernel_rfl
def o43x8 : Array Oper := regO (pth [1, 1, 0, 1, 0, 0, 1, 1, 1] c43v)
def r43x8 : RG X26 := fun call yl x s κ => X26.rec (motive := fun _ => MO X26) (fun m a b c d f g h i l n o p r t u w y z A B C D E F G H s κ => binC t (.i .i64 1) 3 .add P s (fun v0 s => κ (X26.mk m a b c d f g h i l n o p r v0 u w y z A B C D E F G v0) s)) x s κ
theorem r43x8ok : RgOk P false o43x8 T26 r43x8 := fun _ _ x _ _ => by cases x; kernel_rfl
def o43x9 : Array Oper := regO (pth [1, 1, 1, 0] c43v)
def r43x9 : RG X26 := fun call yl x s κ => X26.rec (motive := fun _ => MO X26) (fun m a b c d f g h i l n o p r t u w y z A B C D E F G H s κ => κ (X26.mk m a b c d (.b true) g h i l n o p r t u w y z A B C D E F G H) s) x s κ
theorem r43x9ok : RgOk P false o43x9 T26 r43x9 := fun _ _ x _ _ => by cases x; kernel_rfl
def S43 : SF X26 := (seqS (regS P t0.fq r43x0) (seqS (seqS (regS P t0.fq r43x1) (condS (fun x => X26.rec (motive := fun _ => FV) (fun _ _ _ _ _ _ _ _ _ _ _ z _ _ _ _ _ _ _ _ _ _ _ _ _ _ _ => z) x) (seqS (regS P t0.fq r43x2) retS) skipS)) (seqS (seqS (regS P t0.fq r43x3) (blkS 0 (loopS (seqS (regS P t0.fq r43x4) (seqS (condS (fun x => X26.rec (motive := fun _ => FV) (fun _ _ _ _ _ _ _ _ _ _ _ _ _ _ _ z _ _ _ _ _ _ _ _ _ _ _ => z) x) skipS (exitS 0)) (seqS (blkS 1 (seqS (regS P t0.fq r43x5) (seqS (regS P t0.fq r43x6) (condS (fun x => X26.rec (motive := fun _ => FV) (fun _ _ _ _ _ _ _ _ _ _ _ _ _ _ _ _ _ _ _ _ _ _ _ _ _ z _ => z) x) (seqS (regS P t0.fq r43x7) retS) skipS)))) (regS P t0.fq r43x8))))))) (seqS (regS P t0.fq r43x9) retS))))
theorem S43ok : Sh P t0.fq T26 c43v S43 := by
  have e : c43v = (.seq (.region 0 o43x0 false) (.seq (.seq (.region 1 o43x1 false) (.cond (.tmp 10) (.seq (.region 2 o43x2 false) .ret) .skip)) (.seq (.seq (.region 3 o43x3 false) (.block 0 (.loop (.seq (.region 4 o43x4 false) (.seq (.cond (.tmp 14) .skip (.exit 0)) (.seq (.block 1 (.seq (.region 5 o43x5 false) (.seq (.region 6 o43x6 true) (.cond (.tmp 24) (.seq (.region 7 o43x7 false) .ret) .skip)))) (.region 8 o43x8 false))))))) (.seq (.region 9 o43x9 false) .ret)))) := by kernel_rfl
  rw [e]
  exact (sh_seq (sh_reg r43x0ok) (sh_seq (sh_seq (sh_reg r43x1ok) (sh_cond (fun x => by cases x; rfl) (sh_seq (sh_reg r43x2ok) sh_ret) sh_skip)) (sh_seq (sh_seq (sh_reg r43x3ok) (sh_blk 0 (sh_loop (sh_seq (sh_reg r43x4ok) (sh_seq (sh_cond (fun x => by cases x; rfl) sh_skip (sh_exit 0)) (sh_seq (sh_blk 1 (sh_seq (sh_reg r43x5ok) (sh_seq (sh_reg r43x6ok) (sh_cond (fun x => by cases x; rfl) (sh_seq (sh_reg r43x7ok) sh_ret) sh_skip)))) (sh_reg r43x8ok))))))) (sh_seq (sh_reg r43x9ok) sh_ret))))
def A43 : List FV → Option X26 := fun l => match l with
  | [a, b] => some (X26.mk [] a b .e .e .e .e .e .e .e .e .e .e .e .e .e .e .e .e .e .e .e .e .e .e .e .e)
  | _ => none
def L43 : LQ := shal P T26 S43 [.tmp 4] 4000 A43
def E43 : LA := evCall P t0.fa 4000 43
theorem G43 : Good P 43 L43 E43 := good_shal all0 (by kernel_rfl) (show FT P 43 = some (c43v, 26, [.tmp 4]) by kernel_rfl) S43ok (fun l x h => by
    unfold A43 at h
    split at h
    · cases h; exact ⟨by kernel_rfl, by kernel_rfl⟩
    · cases h) 4000
inductive X32 where
  | mk (m : List Nat) (a b c d f g h i l n o p r t u w y z A B C D E F G H I J K L M N : FV)
def T32 (x : X32) : FF := X32.rec (motive := fun _ => FF) (fun m a b c d f g h i l n o p r t u w y z A B C D E F G H I J K L M N => ⟨(.n a (.n b (.n g (.n D .e .e .e .e) .e .e .e) (.n n (.n H .e .e .e .e) .e .e .e) (.n t (.n L .e .e .e .e) .e .e .e) (.n z .e .e .e .e)) (.n c (.n h (.n E .e .e .e .e) .e .e .e) (.n o (.n I .e .e .e .e) .e .e .e) (.n u (.n M .e .e .e .e) .e .e .e) (.n A .e .e .e .e)) (.n d (.n i (.n F .e .e .e .e) .e .e .e) (.n p (.n J .e .e .e .e) .e .e .e) (.n w (.n N .e .e .e .e) .e .e .e) (.n B .e .e .e .e)) (.n f (.n l (.n G .e .e .e .e) .e .e .e) (.n r (.n K .e .e .e .e) .e .e .e) (.n y .e .e .e .e) (.n C .e .e .e .e))), 32, m⟩) x
def c44v : Code := bodyOf P 44
def o44x0 : Array Oper := regO (pth [0] c44v)
def r44x0 : RG X32 := fun call yl x s κ => X32.rec (motive := fun _ => MO X32) (fun m a b c d f g h i l n o p r t u w y z A B C D E F G H I J K L M N s κ => κ (X32.mk m a b c d f g (.b false) i l n o p r t u w y z A B C D E F G H I J K L M N) s) x s κ
theorem r44x0ok : RgOk P false o44x0 T32 r44x0 := fun _ _ x _ _ => by cases x; kernel_rfl
def o44x1 : Array Oper := regO (pth [1, 0, 0] c44v)
def r44x1 : RG X32 := fun call yl x s κ => X32.rec (motive := fun _ => MO X32) (fun m a b c d f g h i l n o p r t u w y z A B C D E F G H I J K L M N s κ => lenC a P 31 s (fun v0 s => lenC b P 31 s (fun v1 s => binC v0 v1 3 .neq P s (fun v2 s => κ (X32.mk m a b c d f g h i l n a v0 b v1 v2 w y z A B C D E F G H I J K L M N) s)))) x s κ
theorem r44x1ok : RgOk P false o44x1 T32 r44x1 := fun _ _ x _ _ => by cases x; kernel_rfl
def o44x2 : Array Oper := regO (pth [1, 0, 1, 0, 0] c44v)
def r44x2 : RG X32 := fun call yl x s κ => X32.rec (motive := fun _ => MO X32) (fun m a b c d f g h i l n o p r t u w y z A B C D E F G H I J K L M N s κ => κ (X32.mk m a b c d f g (.b false) i l n o p r t u w y z A B C D E F G H I J K L M N) s) x s κ
theorem r44x2ok : RgOk P false o44x2 T32 r44x2 := fun _ _ x _ _ => by cases x; kernel_rfl
def o44x3 : Array Oper := regO (pth [1, 1, 0, 0] c44v)
def r44x3 : RG X32 := fun call yl x s κ => X32.rec (motive := fun _ => MO X32) (fun m a b c d f g h i l n o p r t u w y z A B C D E F G H I J K L M N s κ => lenC a P 31 s (fun v0 s => κ (X32.mk m a b c d f g h i l n o p r t u a v0 (.i .i64 0) A B C D E F G H I J K L M N) s)) x s κ
theorem r44x3ok : RgOk P false o44x3 T32 r44x3 := fun _ _ x _ _ => by cases x; kernel_rfl
def o44x4 : Array Oper := regO (pth [1, 1, 0, 1, 0, 0, 0] c44v)
def r44x4 : RG X32 := fun call yl x s κ => X32.rec (motive := fun _ => MO X32) (fun m a b c d f g h i l n o p r t u w y z A B C D E F G H I J K L M N s κ => binC z y 3 .lss P s (fun v0 s => κ (X32.mk m a b c d f g h i l n o p r t u w y z v0 B C D E F G H I J K L M N) s)) x s κ
theorem r44x4ok : RgOk P false o44x4 T32 r44x4 := fun _ _ x _ _ => by cases x; kernel_rfl
def o44x5 : Array Oper := regO (pth [1, 1, 0, 1, 0, 0, 1, 1, 0, 0, 0] c44v)
def r44x5 : RG X32 := fun call yl x s κ => X32.rec (motive := fun _ => MO X32) (fun m a b c d f g h i l n o p r t u w y z A B C D E F G H I J K L M N s κ => natK z fun j => iaS w j 8 s (fun v0 s => ldV v0 true 8 s (fun v1 s => allocC P 95 s (fun v2 s => stA v2 v1 8 s (fun _ s => κ (X32.mk m a b c d f g h z v2 n o p r t u w y z A z v0 v1 E F G H I J K L M N) s))))) x s κ
theorem r44x5ok : RgOk P false o44x5 T32 r44x5 := fun _ _ x _ _ => by cases x; kernel_rfl
def o44x6 : Array Oper := regO (pth [1, 1, 0, 1, 0, 0, 1, 1, 0, 0, 1, 0] c44v)
def r44x6 : RG X32 := fun call yl x s κ => X32.rec (motive := fun _ => MO X32) (fun m a b c d f g h i l n o p r t u w y z A B C D E F G H I J K L M N s κ => natK i fun j => iaS b j 8 s (fun v0 s => ldV v0 true 8 s (fun v1 s => allocC P 95 s (fun v2 s => stA v2 v1 8 s (fun _ s => κ (X32.mk m a b c d f g h i l v2 o p r t u w y z A B C D b i v0 v1 I J K L M N) s))))) x s κ
theorem r44x6ok : RgOk P false o44x6 T32 r44x6 := fun _ _ x _ _ => by cases x; kernel_rfl
def o44x7 : Array Oper := regO (pth [1, 1, 0, 1, 0, 0, 1, 1, 0, 0, 1, 1, 0] c44v)
def r44x7 : RG X32 := fun call yl x s κ => X32.rec (motive := fun _ => MO X32) (fun m a b c d f g h i l n o p r t u w y z A B C D E F G H I J K L M N s κ => ldV l true 8 s (fun v0 s => ldV n true 8 s (fun v1 s => callV c [v0, v1] call yl s (fun v2 s => notC v2 s (fun v3 s => κ (X32.mk m a b c d f g h i l n o p r t u w y z A B C D E F G H c v0 v1 v2 v3 N) s))))) x s κ
theorem r44x7ok : RgOk P false o44x7 T32 r44x7 := fun _ _ x _ _ => by cases x; kernel_rfl
def o44x8 : Array Oper := regO (pth [1, 1, 0, 1, 0, 0, 1, 1, 0, 0, 1, 1, 1, 0, 0] c44v)
def r44x8 : RG X32 := fun call yl x s κ => X32.rec (motive := fun _ => MO X32) (fun m a b c d f g h i l n o p r t u w y z A B C D E F G H I J K L M N s κ => κ (X32.mk m a b c d f g (.b false) i l n o p r t u w y z A B C D E F G H I J K L M N) s) x s κ
theorem r44x8ok : RgOk P false o44x8 T32 r44x8 := fun _ _ x _ _ => by cases x; kernel_rfl
def o44x9 : Array Oper := regO (pth [1, 1, 0, 1, 0, 0, 1, 1, 1] c44v)
def r44x9 : RG X32 := fun call yl x s κ => X32.rec (motive := fun _ => MO X32) (fun m a b c d f g h i l n o p r t u w y z A B C D E F G H I J K L M N s κ => binC z (.i .i64 1) 3 .add P s (fun v0 s => κ (X32.mk m a b c d f g h i l n o p r t u w y v0 A B C D E F G H I J K L M v0) s)) x s κ
theorem r44x9ok : RgOk P false o44x9 T32 r44x9 := fun _ _ x _ _ => by cases x; kernel_rfl
def o44x10 : Array Oper := regO (pth [1, 1, 1, 0] c44v)
def r44x10 : RG X32 := fun call yl x s κ => X32.rec (motive := fun _ => MO X32) (fun m a b c d f g h i l n o p r t u w y z A B C D E F G H I J K L M N s κ => κ (X32.mk m a b c d f g (.b true) i l n o p r t u w y z A B C D E F G H I J K L M N) s) x s κ
theorem r44x10ok : RgOk P false o44x10 T32 r44x10 := fun _ _ x _ _ => by cases x; kernel_rfl
def S44 : SF X32 := (seqS (regS P t0.fq r44x0) (seqS (seqS (regS P t0.fq r44x1) (condS (fun x => X32.rec (motive := fun _ => FV) (fun _ _ _ _ _ _ _ _ _ _ _ _ _ _ _ z _ _ _ _ _ _ _ _ _ _ _ _ _ _ _ _ _ => z) x) (seqS (regS P t0.fq r44x2) retS) skipS)) (seqS (seqS (regS P t0.fq r44x3) (blkS 0 (loopS (seqS (regS P t0.fq r44x4) (seqS (condS (fun x => X32.rec (motive := fun _ => FV) (fun _ _ _ _ _ _ _ _ _ _ _ _ _ _ _ _ _ _ _ z _ _ _ _ _ _ _ _ _ _ _ _ _ => z) x) skipS (exitS 0)) (seqS (blkS 1 (seqS (regS P t0.fq r44x5) (seqS (regS P t0.fq r44x6) (seqS (regS P t0.fq r44x7) (condS (fun x => X32.rec (motive := fun _ => FV) (fun _ _ _ _ _ _ _ _ _ _ _ _ _ _ _ _ _ _ _ _ _ _ _ _ _ _ _ _ _ _ _ z _ => z) x) (seqS (regS P t0.fq r44x8) retS) skipS))))) (regS P t0.fq r44x9))))))) (seqS (regS P t0.fq r44x10) retS))))
theorem S44ok : Sh P t0.fq T32 c44v S44 := by
  have e : c44v = (.seq (.region 0 o44x0 false) (.seq (.seq (.region 1 o44x1 false) (.cond (.tmp 14) (.seq (.region 2 o44x2 false) .ret) .skip)) (.seq (.seq (.region 3 o44x3 false) (.block 0 (.loop (.seq (.region 4 o44x4 false) (.seq (.cond (.tmp 18) .skip (.exit 0)) (.seq (.block 1 (.seq (.region 5 o44x5 false) (.seq (.region 6 o44x6 false) (.seq (.region 7 o44x7 false) (.cond (.tmp 30) (.seq (.region 8 o44x8 false) .ret) .skip))))) (.region 9 o44x9 false))))))) (.seq (.region 10 o44x10 false) .ret)))) := by kernel_rfl
  rw [e]
  exact (sh_seq (sh_reg r44x0ok) (sh_seq (sh_seq (sh_reg r44x1ok) (sh_cond (fun x => by cases x; rfl) (sh_seq (sh_reg r44x2ok) sh_ret) sh_skip)) (sh_seq (sh_seq (sh_reg r44x3ok) (sh_blk 0 (sh_loop (sh_seq (sh_reg r44x4ok) (sh_seq (sh_cond (fun x => by cases x; rfl) sh_skip (sh_exit 0)) (sh_seq (sh_blk 1 (sh_seq (sh_reg r44x5ok) (sh_seq (sh_reg r44x6ok) (sh_seq (sh_reg r44x7ok) (sh_cond (fun x => by cases x; rfl) (sh_seq (sh_reg r44x8ok) sh_ret) sh_skip))))) (sh_reg r44x9ok))))))) (sh_seq (sh_reg r44x10ok) sh_ret))))
def A44 : List FV → Option X32 := fun l => match l with
  | [a, b, c] => some (X32.mk [] a b c .e .e .e .e .e .e .e .e .e .e .e .e .e .e .e .e .e .e .e .e .e .e .e .e .e .e .e .e .e)
  | _ => none
def L44 : LQ := shal P T32 S44 [.tmp 6] 4000 A44
def E44 : LA := evCall P t0.fa 4000 44
theorem G44 : Good P 44 L44 E44 := good_shal all0 (by kernel_rfl) (show FT P 44 = some (c44v, 32, [.tmp 6]) by kernel_rfl) S44ok (fun l x h => by
    unfold A44 at h
    split at h
    · cases h; exact ⟨by kernel_rfl, by kernel_rfl⟩
    · cases h) 4000
def c46v : Code := bodyOf P 46
def o46x0 : Array Oper := regO (pth [0] c46v)
def r46x0 : RG X8 := fun call yl x s κ => X8.rec (motive := fun _ => MO X8) (fun m a b c d f g h i s κ => κ (X8.mk m a b (.o (.sl none 0 0)) d f g h i) s) x s κ
theorem r46x0ok : RgOk P false o46x0 T8 r46x0 := fun _ _ x _ _ => by cases x; kernel_rfl
def o46x1 : Array Oper := regO (pth [1, 0, 0] c46v)
def r46x1 : RG X8 := fun call yl x s κ => X8.rec (motive := fun _ => MO X8) (fun m a b c d f g h i s κ => binC a (.o (.sl none 0 0)) 23 .eql P s (fun v0 s => κ (X8.mk m a b c a v0 g h i) s)) x s κ
theorem r46x1ok : RgOk P false o46x1 T8 r46x1 := fun _ _ x _ _ => by cases x; kernel_rfl
def o46x2 : Array Oper := regO (pth [1, 0, 1, 0, 0] c46v)
def r46x2 : RG X8 := fun call yl x s κ => X8.rec (motive := fun _ => MO X8) (fun m a b c d f g h i s κ => κ (X8.mk m a b (.o (.sl none 0 0)) d f g h i) s) x s κ
theorem r46x2ok : RgOk P false o46x2 T8 r46x2 := fun _ _ x _ _ => by cases x; kernel_rfl
def o46x3 : Array Oper := regO (pth [1, 1, 0] c46v)
def r46x3 : RG X8 := fun call yl x s κ => X8.rec (motive := fun _ => MO X8) (fun m a b c d f g h i s κ => buildSliceC P 23 0 [] s (fun v0 s => appendC P 23 23 v0 a s (fun v1 s => κ (X8.mk m a b v1 d f v0 a v1) s))) x s κ
theorem r46x3ok : RgOk P false o46x3 T8 r46x3 := fun _ _ x _ _ => by cases x; kernel_rfl
def S46 : SF X8 := (seqS (regS P t0.fq r46x0) (seqS (seqS (regS P t0.fq r46x1) (condS (fun x => X8.rec (motive := fun _ => FV) (fun _ _ _ _ _ z _ _ _ => z) x) (seqS (regS P t0.fq r46x2) retS) skipS)) (seqS (regS P t0.fq r46x3) retS)))
theorem S46ok : Sh P t0.fq T8 c46v S46 := by
  have e : c46v = (.seq (.region 0 o46x0 false) (.seq (.seq (.region 1 o46x1 false) (.cond (.tmp 4) (.seq (.region 2 o46x2 false) .ret) .skip)) (.seq (.region 3 o46x3 false) .ret))) := by kernel_rfl
  rw [e]
  exact (sh_seq (sh_reg r46x0ok) (sh_seq (sh_seq (sh_reg r46x1ok) (sh_cond (fun x => by cases x; rfl) (sh_seq (sh_reg r46x2ok) sh_ret) sh_skip)) (sh_seq (sh_reg r46x3ok) sh_ret)))
def A46 : List FV → Option X8 := fun l => match l with
  | [a] => some (X8.mk [] a .e .e .e .e .e .e .e)
  | _ => none
def L46 : LQ := shal P T8 S46 [.tmp 2] 4000 A46
def E46 : LA := evCall P t0.fa 4000 46
theorem G46 : Good P 46 L46 E46 := good_shal all0 (by kernel_rfl) (show FT P 46 = some (c46v, 8, [.tmp 2]) by kernel_rfl) S46ok (fun l x h => by
    unfold A46 at h
    split at h
    · cases h; exact ⟨by kernel_rfl, by kernel_rfl⟩
    · cases h) 4000
inductive X23 where
  | mk (m : List Nat) (a b c d f g h i l n o p r t u w y z A B C D E : FV)
def T23 (x : X23) : FF := X23.rec (motive := fun _ => FF) (fun m a b c d f g h i l n o p r t u w y z A B C D E => ⟨(.n a (.n b (.n g (.n D .e .e .e .e) .e .e .e) (.n n .e .e .e .e) (.n t .e .e .e .e) (.n z .e .e .e .e)) (.n c (.n h (.n E .e .e .e .e) .e .e .e) (.n o .e .e .e .e) (.n u .e .e .e .e) (.n A .e .e .e .e)) (.n d (.n i .e .e .e .e) (.n p .e .e .e .e) (.n w .e .e .e .e) (.n B .e .e .e .e)) (.n f (.n l .e .e .e .e) (.n r .e .e .e .e) (.n y .e .e .e .e) (.n C .e .e .e .e))), 23, m⟩) x
def c49v : Code := bodyOf P 49
def o49x0 : Array Oper := regO (pth [0] c49v)
def r49x0 : RG X23 := fun call yl x s κ => X23.rec (motive := fun _ => MO X23) (fun m a b c d f g h i l n o p r t u w y z A B C D E s κ => κ (X23.mk m a b c d f g c (.i .i64 0) l n o p r t u w y z A B C D E) s) x s κ
theorem r49x0ok : RgOk P false o49x0 T23 r49x0 := fun _ _ x _ _ => by cases x; kernel_rfl
def o49x1 : Array Oper := regO (pth [1, 0, 0, 0] c49v)
def r49x1 : RG X23 := fun call yl x s κ => X23.rec (motive := fun _ => MO X23) (fun m a b c d f g h i l n o p r t u w y z A B C D E s κ => binC i h 3 .lss P s (fun v0 s => κ (X23.mk m a b c d f g h i v0 n o p r t u w y z A B C D E) s)) x s κ
theorem r49x1ok : RgOk P false o49x1 T23 r49x1 := fun _ _ x _ _ => by cases x; kernel_rfl
def o49x2 : Array Oper := regO (pth [1, 0, 0, 1, 1, 0, 0, 0] c49v)
def r49x2 : RG X23 := fun call yl x s κ => X23.rec (motive := fun _ => MO X23) (fun m a b c d f g h i l n o p r t u w y z A B C D E s κ => nilC a s (fun v0 s => ptrK v0 1 s (fun v1 s => ldV v1 false 1 s (fun v2 s => cvV b .u8 s (fun v3 s => buildSliceC P 45 1 [(0, v3)] s (fun v4 s => appendC P 45 45 v2 v4 s (fun v5 s => nilC a s (fun v6 s => ptrK v6 1 s (fun v7 s => stA v7 v5 1 s (fun _ s => κ (X23.mk m a b c d f g h i l a a v0 v1 v2 b v3 v4 v5 v6 v7 C D E) s)))))))))) x s κ
theorem r49x2ok : RgOk P false o49x2 T23 r49x2 := fun _ _ x _ _ => by cases x; kernel_rfl
def o49x3 : Array Oper := regO (pth [1, 0, 0, 1, 1, 0, 0, 1] c49v)
def r49x3 : RG X23 := fun call yl x s κ => X23.rec (motive := fun _ => MO X23) (fun m a b c d f g h i l n o p r t u w y z A B C D E s κ => binC b (.i .u64 8) 3 .shr P s (fun v0 s => κ (X23.mk m a v0 c d f g h i l n o p r t u w y z A B b v0 E) s)) x s κ
theorem r49x3ok : RgOk P false o49x3 T23 r49x3 := fun _ _ x _ _ => by cases x; kernel_rfl
def o49x4 : Array Oper := regO (pth [1, 0, 0, 1, 1, 1] c49v)
def r49x4 : RG X23 := fun call yl x s κ => X23.rec (motive := fun _ => MO X23) (fun m a b c d f g h i l n o p r t u w y z A B C D E s κ => binC i (.i .i64 1) 3 .add P s (fun v0 s => κ (X23.mk m a b c d f g h v0 l n o p r t u w y z A B C D v0) s)) x s κ
theorem r49x4ok : RgOk P false o49x4 T23 r49x4 := fun _ _ x _ _ => by cases x; kernel_rfl
def S49 : SF X23 := (seqS (regS P t0.fq r49x0) (blkS 0 (loopS (seqS (regS P t0.fq r49x1) (seqS (condS (fun x => X23.rec (motive := fun _ => FV) (fun _ _ _ _ _ _ _ _ _ z _ _ _ _ _ _ _ _ _ _ _ _ _ _ => z) x) skipS (exitS 0)) (seqS (blkS 1 (seqS (regS P t0.fq r49x2) (regS P t0.fq r49x3))) (regS P t0.fq r49x4)))))))
theorem S49ok : Sh P t0.fq T23 c49v S49 := by
  have e : c49v = (.seq (.region 0 o49x0 false) (.block 0 (.loop (.seq (.region 1 o49x1 false) (.seq (.cond (.tmp 8) .skip (.exit 0)) (.seq (.block 1 (.seq (.region 2 o49x2 false) (.region 3 o49x3 false))) (.region 4 o49x4 false))))))) := by kernel_rfl
  rw [e]
  exact (sh_seq (sh_reg r49x0ok) (sh_blk 0 (sh_loop (sh_seq (sh_reg r49x1ok) (sh_seq (sh_cond (fun x => by cases x; rfl) sh_skip (sh_exit 0)) (sh_seq (sh_blk 1 (sh_seq (sh_reg r49x2ok) (sh_reg r49x3ok))) (sh_reg r49x4ok)))))))
def A49 : List FV → Option X23 := fun l => match l with
  | [a, b, c] => some (X23.mk [] a b c .e .e .e .e .e .e .e .e .e .e .e .e .e .e .e .e .e .e .e .e)
  | _ => none
def L49 : LQ := shal P T23 S49 [] 4000 A49
def E49 : LA := evCall P t0.fa 4000 49
theorem G49 : Good P 49 L49 E49 := good_shal all0 (by kernel_rfl) (show FT P 49 = some (c49v, 23, []) by kernel_rfl) S49ok (fun l x h => by
    unfold A49 at h
    split at h
    · cases h; exact ⟨by kernel_rfl, by kernel_rfl⟩
    · cases h) 4000
def c54v : Code := bodyOf P 54
def o54x0 : Array Oper := regO (pth [] c54v)
def r54x0 : RG X17 := fun call yl x s κ => X17.rec (motive := fun _ => MO X17) (fun m a b c d f g h i l n o p r t u w y s κ => (fun qv0 => (fun qv1 => sandS (fun s κ1 => nilC a s (κ1)) s (fun qv2 v3 s => sandS (fun s κ1 => ptrK v3 1 s (κ1)) s (fun qv4 v5 s => sandS (fun s κ1 => ldV v5 false 1 s (κ1)) s (fun qv6 v7 s => (fun qv8 => sandS (fun s κ1 => nilC a s (κ1)) s (fun qv9 v10 s => sandS (fun s κ1 => ptrK v10 0 s (κ1)) s (fun qv11 v12 s => sandS (fun s κ1 => ldV v12 false 1 s (κ1)) s (fun qv13 v14 s => sandS (fun s κ1 => nilC v14 s (κ1)) s (fun qv15 v16 s => sandS (fun s κ1 => ptrK v16 30 s (κ1)) s (fun qv17 v18 s => sandS (fun s κ1 => sliceC P 38 v18 none none none s (κ1)) s (fun qv19 v20 s => sandS (fun s κ1 => appendC P 45 45 v7 v20 s (κ1)) s (fun qv21 v22 s => sandS (fun s κ1 => nilC a s (κ1)) s (fun qv23 v24 s => sandS (fun s κ1 => ptrK v24 1 s (κ1)) s (fun qv25 v26 s => sandS (fun s κ1 => stA v26 v22 1 s (κ1)) s (fun qv27 v28 s => V.iff (dynA [] [qv0, qv1, qv2, qv4, qv6, qv8, qv9, qv11, qv13, qv15, qv17, qv19, qv21, qv23, qv25, qv27] [[], [true], [true, false], [true, false, false], [true, false, false, false], [true, true, true, true, true], [true, true, true, true, true, false], [true, true, true, true, true, false, false], [true, true, true, true, true, false, false, false], [true, true, true, true, true, false, false, false, false], [true, true, true, true, true, false, false, false, false, false], [true, true, true, true, true, false, false, false, false, false, false], [true, false, false, false, false, false, false, false, false, false, false, false], [false, false, false, false, false, false, false, false, false, false, false, false, false], [false, false, false, false, false, false, false, false, false, false, false, false, false, false], [false, false, false, false, false, false, false, false, false, false, false, false, false, false, false]]) (κ (X17.mk m a b a a v3 v5 v7 a v10 v12 v14 v16 v18 v20 v22 v24 v26) s)))))))))))) (qz s))))) (qz s)) (qz s)) x s κ
theorem r54x0ok : RgOk P true o54x0 T17 r54x0 := fun _ _ x _ _ => by cases x; kernel_rfl
def S54 : SF X17 := (regS P t0.fq r54x0)
theorem S54ok : Sh P t0.fq T17 c54v S54 := by
  have e : c54v = (.region 0 o54x0 true) := by kernel_rfl
  rw [e]
  exact (sh_reg r54x0ok)
def A54 : List FV → Option X17 := fun l => match l with
  | [a] => some (X17.mk [] a .e .e .e .e .e .e .e .e .e .e .e .e .e .e .e .e)
  | _ => none
def L54 : LQ := shal P T17 S54 [] 4000 A54
def E54 : LA := evCall P t0.fa 4000 54
theorem G54 : Good P 54 L54 E54 := good_shal all0 (by kernel_rfl) (show FT P 54 = some (c54v, 17, []) by kernel_rfl) S54ok (fun l x h => by
    unfold A54 at h
    split at h
    · cases h; exact ⟨by kernel_rfl, by kernel_rfl⟩
    · cases h) 4000
inductive X37 where
  | mk (m : List Nat) (a b c d f g h i l n o p r t u w y z A B C D E F G H I J K L M N O Q R S T : FV)
def T37 (x : X37) : FF := X37.rec (motive := fun _ => FF) (fun m a b c d f g h i l n o p r t u w y z A B C D E F G H I J K L M N O Q R S T => ⟨(.n a (.n b (.n g (.n D .e .e .e .e) .e .e .e) (.n n (.n H .e .e .e .e) .e .e .e) (.n t (.n L .e .e .e .e) .e .e .e) (.n z (.n Q .e .e .e .e) .e .e .e)) (.n c (.n h (.n E .e .e .e .e) .e .e .e) (.n o (.n I .e .e .e .e) .e .e .e) (.n u (.n M .e .e .e .e) .e .e .e) (.n A (.n R .e .e .e .e) .e .e .e)) (.n d (.n i (.n F .e .e .e .e) .e .e .e) (.n p (.n J .e .e .e .e) .e .e .e) (.n w (.n N .e .e .e .e) .e .e .e) (.n B (.n S .e .e .e .e) .e .e .e)) (.n f (.n l (.n G .e .e .e .e) .e .e .e) (.n r (.n K .e .e .e .e) .e .e .e) (.n y (.n O .e .e .e .e) .e .e .e) (.n C (.n T .e .e .e .e) .e .e .e))), 37, m⟩) x
def c55v : Code := bodyOf P 55
def o55x0 : Array Oper := regO (pth [0] c55v)
def r55x0 : RG X37 := fun call yl x s κ => X37.rec (motive := fun _ => MO X37) (fun m a b c d f g h i l n o p r t u w y z A B C D E F G H I J K L M N O Q R S T s κ => κ (X37.mk m a b c d (.b false) g h i l n o p r t u w y z A B C D E F G H I J K L M N O Q R S T) s) x s κ
theorem r55x0ok : RgOk P false o55x0 T37 r55x0 := fun _ _ x _ _ => by cases x; kernel_rfl
def o55x1 : Array Oper := regO (pth [1, 0] c55v)
def r55x1 : RG X37 := fun call yl x s κ => X37.rec (motive := fun _ => MO X37) (fun m a b c d f g h i l n o p r t u w y z A B C D E F G H I J K L M N O Q R S T s κ => κ (X37.mk m a b c d f (.i .i64 19) h i l n o p r t u w y z A B C D E F G H I J K L M N O Q R S T) s) x s κ
theorem r55x1ok : RgOk P false o55x1 T37 r55x1 := fun _ _ x _ _ => by cases x; kernel_rfl
def o55x2 : Array Oper := regO (pth [1, 1, 0] c55v)
def r55x2 : RG X37 := fun call yl x s κ => X37.rec (motive := fun _ => MO X37) (fun m a b c d f g h i l n o p r t u w y z A B C D E F G H I J K L M N O Q R S T s κ => κ (X37.mk m a b c d f g (.i .i64 102401) i l n o p r t u w y z A B C D E F G H I J K L M N O Q R S T) s) x s κ
theorem r55x2ok : RgOk P false o55x2 T37 r55x2 := fun _ _ x _ _ => by cases x; kernel_rfl
def o55x3 : Array Oper := regO (pth [1, 1, 1, 0] c55v)
def r55x3 : RG X37 := fun call yl x s κ => X37.rec (motive := fun _ => MO X37) (fun m a b c d f g h i l n o p r t u w y z A B C D E F G H I J K L M N O Q R S T s κ => binC g (.i .i64 1024) 3 .or P s (fun v0 s => binC g (.i .i64 512) 3 .or P s (fun v1 s => binC g (.i .i64 32) 3 .or P s (fun v2 s => binC h (.i .i64 64) 3 .or P s (fun v3 s => buildC P 127 [(1, v0), (2, g), (3, g), (4, v1), (5, v2), (6, (.i .i64 1923)), (7, (.i .i64 3)), (8, (.i .i64 40049)), (9, (.i .i64 100417)), (10, v3), (11, h), (12, h), (13, (.i .i64 32769)), (14, h), (15, (.i .i64 24624)), (16, (.i .i64 122928)), (17, (.i .i64 98316)), (18, (.i .i64 65537))] s (fun v4 s => allocC P 127 s (fun v5 s => stA v5 v4 19 s (fun _ s => κ (X37.mk m a b c d f g h v5 g v0 g g g v1 g v2 h v3 h h h v4 E F G H I J K L M N O Q R S T) s)))))))) x s κ
theorem r55x3ok : RgOk P false o55x3 T37 r55x3 := fun _ _ x _ _ => by cases x; kernel_rfl
def o55x4 : Array Oper := regO (pth [1, 1, 1, 1, 0] c55v)
def r55x4 : RG X37 := fun call yl x s κ => X37.rec (motive := fun _ => MO X37) (fun m a b c d f g h i l n o p r t u w y z A B C D E F G H I J K L M N O Q R S T s κ => binC (.i .i64 0) a 3 .lss P s (fun v0 s => bnk (fun κ1 => wantC v0 true (κ1 a s) (κ1 .e s)) (fun v1 s => bnk (fun κ1 => wantC v0 true (binC v1 (.i .i64 18) 3 .leq P s (κ1)) (κ1 .e s)) (fun v2 s => bnk (fun κ0 => condB v0 (κ0 v2 s) (κ0 (.b false) s)) (fun v3 s => bnk (fun κ1 => wantC v3 true (κ1 a s) (κ1 .e s)) (fun v4 s => bnk (fun κ1 => wantC v3 true (natK v4 fun j => iaP i 19 j 1 s (κ1)) (κ1 .e s)) (fun v5 s => bnk (fun κ1 => wantC v3 true (ldV v5 false 1 s (κ1)) (κ1 .e s)) (fun v6 s => bnk (fun κ1 => wantC v3 true (κ1 b s) (κ1 .e s)) (fun v7 s => bnk (fun κ1 => wantC v3 true (binC v6 v7 3 .shr P s (κ1)) (κ1 .e s)) (fun v8 s => bnk (fun κ1 => wantC v3 true (binC v8 (.i .i64 1) 3 .and P s (κ1)) (κ1 .e s)) (fun v9 s => bnk (fun κ1 => wantC v3 true (binC v9 (.i .i64 1) 3 .eql P s (κ1)) (κ1 .e s)) (fun v10 s => bnk (fun κ0 => condB v3 (κ0 v10 s) (κ0 (.b false) s)) (fun v11 s => κ (X37.mk m a b c d v11 g h i l n o p r t u w y z A B C D a v0 v0 v1 v2 v3 v3 v4 v5 v6 v7 v8 v9 v10 v11) s))))))))))))) x s κ
theorem r55x4ok : RgOk P false o55x4 T37 r55x4 := fun _ _ x _ _ => by cases x; kernel_rfl
def S55 : SF X37 := (seqS (regS P t0.fq r55x0) (seqS (regS P t0.fq r55x1) (seqS (regS P t0.fq r55x2) (seqS (regS P t0.fq r55x3) (seqS (regS P t0.fq r55x4) retS)))))
theorem S55ok : Sh P t0.fq T37 c55v S55 := by
  have e : c55v = (.seq (.region 0 o55x0 false) (.seq (.region 1 o55x1 false) (.seq (.region 2 o55x2 false) (.seq (.region 3 o55x3 false) (.seq (.region 4 o55x4 false) .ret))))) := by kernel_rfl
  rw [e]
  exact (sh_seq (sh_reg r55x0ok) (sh_seq (sh_reg r55x1ok) (sh_seq (sh_reg r55x2ok) (sh_seq (sh_reg r55x3ok) (sh_seq (sh_reg r55x4ok) sh_ret)))))
def A55 : List FV → Option X37 := fun l => match l with
  | [a, b] => some (X37.mk [] a b .e .e .e .e .e .e .e .e .e .e .e .e .e .e .e .e .e .e .e .e .e .e .e .e .e .e .e .e .e .e .e .e .e .e .e)
  | _ => none
def L55 : LQ := shal P T37 S55 [.tmp 4] 4000 A55
def E55 : LA := evCall P t0.fa 4000 55
theorem G55 : Good P 55 L55 E55 := good_shal all0 (by kernel_rfl) (show FT P 55 = some (c55v, 37, [.tmp 4]) by kernel_rfl) S55ok (fun l x h => by
    unfold A55 at h
    split at h
    · cases h; exact ⟨by kernel_rfl, by kernel_rfl⟩
    · cases h) 4000
inductive X19 where
  | mk (m : List Nat) (a b c d f g h i l n o p r t u w y z A : FV)
def T19 (x : X19) : FF := X19.rec (motive := fun _ => FF) (fun m a b c d f g h i l n o p r t u w y z A => ⟨(.n a (.n b (.n g .e .e .e .e) (.n n .e .e .e .e) (.n t .e .e .e .e) (.n z .e .e .e .e)) (.n c (.n h .e .e .e .e) (.n o .e .e .e .e) (.n u .e .e .e .e) (.n A .e .e .e .e)) (.n d (.n i .e .e .e .e) (.n p .e .e .e .e) (.n w .e .e .e .e) .e) (.n f (.n l .e .e .e .e) (.n r .e .e .e .e) (.n y .e .e .e .e) .e)), 19, m⟩) x
def c61v : Code := bodyOf P 61
def o61x0 : Array Oper := regO (pth [0] c61v)
def r61x0 : RG X19 := fun call yl x s κ => X19.rec (motive := fun _ => MO X19) (fun m a b c d f g h i l n o p r t u w y z A s κ => κ (X19.mk m a b c d (.i .i64 0) g h i l n o p r t u w y z A) s) x s κ
theorem r61x0ok : RgOk P false o61x0 T19 r61x0 := fun _ _ x _ _ => by cases x; kernel_rfl
def o61x1 : Array Oper := regO (pth [1, 0, 0] c61v)
def r61x1 : RG X19 := fun call yl x s κ => X19.rec (motive := fun _ => MO X19) (fun m a b c d f g h i l n o p r t u w y z A s κ => lenC a P 56 s (fun v0 s => κ (X19.mk m a b c d f g a v0 (.i .i64 0) n o p r t u w y z A) s)) x s κ
theorem r61x1ok : RgOk P false o61x1 T19 r61x1 := fun _ _ x _ _ => by cases x; kernel_rfl
def o61x2 : Array Oper := regO (pth [1, 0, 1, 0, 0, 0] c61v)
def r61x2 : RG X19 := fun call yl x s κ => X19.rec (motive := fun _ => MO X19) (fun m a b c d f g h i l n o p r t u w y z A s κ => binC l i 3 .lss P s (fun v0 s => κ (X19.mk m a b c d f g h i l v0 o p r t u w y z A) s)) x s κ
theorem r61x2ok : RgOk P false o61x2 T19 r61x2 := fun _ _ x _ _ => by cases x; kernel_rfl
def o61x3 : Array Oper := regO (pth [1, 0, 1, 0, 0, 1, 1, 0, 0, 0] c61v)
def r61x3 : RG X19 := fun call yl x s κ => X19.rec (motive := fun _ => MO X19) (fun m a b c d f g h i l n o p r t u w y z A s κ => κ (X19.mk m a b c d f l h i l n l p r t u w y z A) s) x s κ
theorem r61x3ok : RgOk P false o61x3 T19 r61x3 := fun _ _ x _ _ => by cases x; kernel_rfl
def o61x4 : Array Oper := regO (pth [1, 0, 1, 0, 0, 1, 1, 0, 0, 1, 0] c61v)
def r61x4 : RG X19 := fun call yl x s κ => X19.rec (motive := fun _ => MO X19) (fun m a b c d f g h i l n o p r t u w y z A s κ => natK g fun j => iaS a j 62 s (fun v0 s => ldV v0 true 62 s (fun v1 s => callV b [v1] call yl s (fun v2 s => κ (X19.mk m a b c d f g h i l n o b a g v0 v1 v2 z A) s)))) x s κ
theorem r61x4ok : RgOk P false o61x4 T19 r61x4 := fun _ _ x _ _ => by cases x; kernel_rfl
def o61x5 : Array Oper := regO (pth [1, 0, 1, 0, 0, 1, 1, 0, 0, 1, 1, 0, 0] c61v)
def r61x5 : RG X19 := fun call yl x s κ => X19.rec (motive := fun _ => MO X19) (fun m a b c d f g h i l n o p r t u w y z A s κ => κ (X19.mk m a b c d g g h i l n o p r t u w y g A) s) x s κ
theorem r61x5ok : RgOk P false o61x5 T19 r61x5 := fun _ _ x _ _ => by cases x; kernel_rfl
def o61x6 : Array Oper := regO (pth [1, 0, 1, 0, 0, 1, 1, 1] c61v)
def r61x6 : RG X19 := fun call yl x s κ => X19.rec (motive := fun _ => MO X19) (fun m a b c d f g h i l n o p r t u w y z A s κ => binC l (.i .i64 1) 3 .add P s (fun v0 s => κ (X19.mk m a b c d f g h i v0 n o p r t u w y z v0) s)) x s κ
theorem r61x6ok : RgOk P false o61x6 T19 r61x6 := fun _ _ x _ _ => by cases x; kernel_rfl
def o61x7 : Array Oper := regO (pth [1, 1, 0] c61v)
def r61x7 : RG X19 := fun call yl x s κ => X19.rec (motive := fun _ => MO X19) (fun m a b c d f g h i l n o p r t u w y z A s κ => κ (X19.mk m a b c d (.o (.i .i64 (.negSucc 0))) g h i l n o p r t u w y z A) s) x s κ
theorem r61x7ok : RgOk P false o61x7 T19 r61x7 := fun _ _ x _ _ => by cases x; kernel_rfl
def S61 : SF X19 := (seqS (regS P t0.fq r61x0) (seqS (seqS (regS P t0.fq r61x1) (blkS 0 (loopS (seqS (regS P t0.fq r61x2) (seqS (condS (fun x => X19.rec (motive := fun _ => FV) (fun _ _ _ _ _ _ _ _ _ _ z _ _ _ _ _ _ _ _ _ => z) x) skipS (exitS 0)) (seqS (blkS 1 (seqS (regS P t0.fq r61x3) (seqS (regS P t0.fq r61x4) (condS (fun x => X19.rec (motive := fun _ => FV) (fun _ _ _ _ _ _ _ _ _ _ _ _ _ _ _ _ _ z _ _ => z) x) (seqS (regS P t0.fq r61x5) retS) skipS)))) (regS P t0.fq r61x6))))))) (seqS (regS P t0.fq r61x7) retS)))
theorem S61ok : Sh P t0.fq T19 c61v S61 := by
  have e : c61v = (.seq (.region 0 o61x0 false) (.seq (.seq (.region 1 o61x1 false) (.block 0 (.loop (.seq (.region 2 o61x2 false) (.seq (.cond (.tmp 9) .skip (.exit 0)) (.seq (.block 1 (.seq (.region 3 o61x3 false) (.seq (.region 4 o61x4 false) (.cond (.tmp 16) (.seq (.region 5 o61x5 false) .ret) .skip)))) (.region 6 o61x6 false))))))) (.seq (.region 7 o61x7 false) .ret))) := by kernel_rfl
  rw [e]
  exact (sh_seq (sh_reg r61x0ok) (sh_seq (sh_seq (sh_reg r61x1ok) (sh_blk 0 (sh_loop (sh_seq (sh_reg r61x2ok) (sh_seq (sh_cond (fun x => by cases x; rfl) sh_skip (sh_exit 0)) (sh_seq (sh_blk 1 (sh_seq (sh_reg r61x3ok) (sh_seq (sh_reg r61x4ok) (sh_cond (fun x => by cases x; rfl) (sh_seq (sh_reg r61x5ok) sh_ret) sh_skip)))) (sh_reg r61x6ok))))))) (sh_seq (sh_reg r61x7ok) sh_ret)))
def A61 : List FV → Option X19 := fun l => match l with
  | [a, b] => some (X19.mk [] a b .e .e .e .e .e .e .e .e .e .e .e .e .e .e .e .e .e)
  | _ => none
def L61 : LQ := shal P T19 S61 [.tmp 4] 4000 A61
def E61 : LA := evCall P t0.fa 4000 61
theorem G61 : Good P 61 L61 E61 := good_shal all0 (by kernel_rfl) (show FT P 61 = some (c61v, 19, [.tmp 4]) by kernel_rfl) S61ok (fun l x h => by
    unfold A61 at h
    split at h
    · cases h; exact ⟨by kernel_rfl, by kernel_rfl⟩
    · cases h) 4000
def c62v : Code := bodyOf P 62
def o62x0 : Array Oper := regO (pth [0] c62v)
def r62x0 : RG X8 := fun call yl x s κ => X8.rec (motive := fun _ => MO X8) (fun m a b c d f g h i s κ => κ (X8.mk m a b (.o (.sl none 0 0)) d f g h i) s) x s κ
theorem r62x0ok : RgOk P false o62x0 T8 r62x0 := fun _ _ x _ _ => by cases x; kernel_rfl
def o62x1 : Array Oper := regO (pth [1, 0, 0] c62v)
def r62x1 : RG X8 := fun call yl x s κ => X8.rec (motive := fun _ => MO X8) (fun m a b c d f g h i s κ => binC a (.o (.sl none 0 0)) 24 .eql P s (fun v0 s => κ (X8.mk m a b c a v0 g h i) s)) x s κ
theorem r62x1ok : RgOk P false o62x1 T8 r62x1 := fun _ _ x _ _ => by cases x; kernel_rfl
def o62x2 : Array Oper := regO (pth [1, 0, 1, 0, 0] c62v)
def r62x2 : RG X8 := fun call yl x s κ => X8.rec (motive := fun _ => MO X8) (fun m a b c d f g h i s κ => κ (X8.mk m a b (.o (.sl none 0 0)) d f g h i) s) x s κ
theorem r62x2ok : RgOk P false o62x2 T8 r62x2 := fun _ _ x _ _ => by cases x; kernel_rfl
def o62x3 : Array Oper := regO (pth [1, 1, 0] c62v)
def r62x3 : RG X8 := fun call yl x s κ => X8.rec (motive := fun _ => MO X8) (fun m a b c d f g h i s κ => buildSliceC P 24 0 [] s (fun v0 s => appendC P 24 24 v0 a s (fun v1 s => κ (X8.mk m a b v1 d f v0 a v1) s))) x s κ
theorem r62x3ok : RgOk P false o62x3 T8 r62x3 := fun _ _ x _ _ => by cases x; kernel_rfl
def S62 : SF X8 := (seqS (regS P t0.fq r62x0) (seqS (seqS (regS P t0.fq r62x1) (condS (fun x => X8.rec (motive := fun _ => FV) (fun _ _ _ _ _ z _ _ _ => z) x) (seqS (regS P t0.fq r62x2) retS) skipS)) (seqS (regS P t0.fq r62x3) retS)))
theorem S62ok : Sh P t0.fq T8 c62v S62 := by
  have e : c62v = (.seq (.region 0 o62x0 false) (.seq (.seq (.region 1 o62x1 false) (.cond (.tmp 4) (.seq (.region 2 o62x2 false) .ret) .skip)) (.seq (.region 3 o62x3 false) .ret))) := by kernel_rfl
  rw [e]
  exact (sh_seq (sh_reg r62x0ok) (sh_seq (sh_seq (sh_reg r62x1ok) (sh_cond (fun x => by cases x; rfl) (sh_seq (sh_reg r62x2ok) sh_ret) sh_skip)) (sh_seq (sh_reg r62x3ok) sh_ret)))
def A62 : List FV → Option X8 := fun l => match l with
  | [a] => some (X8.mk [] a .e .e .e .e .e .e .e)
  | _ => none
def L62 : LQ := shal P T8 S62 [.tmp 2] 4000 A62
def E62 : LA := evCall P t0.fa 4000 62
theorem G62 : Good P 62 L62 E62 := good_shal all0 (by kernel_rfl) (show FT P 62 = some (c62v, 8, [.tmp 2]) by kernel_rfl) S62ok (fun l x h => by
    unfold A62 at h
    split at h
    · cases h; exact ⟨by kernel_rfl, by kernel_rfl⟩
    · cases h) 4000
def c63v : Code := bodyOf P 63
def o63x0 : Array Oper := regO (pth [0] c63v)
def r63x0 : RG X23 := fun call yl x s κ => X23.rec (motive := fun _ => MO X23) (fun m a b c d f g h i l n o p r t u w y z A B C D E s κ => ptrK b 5 s (fun v0 s => ldV v0 false 1 s (fun v1 s => lenC v1 P 23 s (fun v2 s => κ (X23.mk m a b c d f v0 v1 v2 (.i .i64 0) n o p r t u w y z A B C D E) s)))) x s κ
theorem r63x0ok : RgOk P false o63x0 T23 r63x0 := fun _ _ x _ _ => by cases x; kernel_rfl
def o63x1 : Array Oper := regO (pth [1, 0, 0, 0] c63v)
def r63x1 : RG X23 := fun call yl x s κ => X23.rec (motive := fun _ => MO X23) (fun m a b c d f g h i l n o p r t u w y z A B C D E s κ => binC l i 3 .lss P s (fun v0 s => κ (X23.mk m a b c d f g h i l v0 o p r t u w y z A B C D E) s)) x s κ
theorem r63x1ok : RgOk P false o63x1 T23 r63x1 := fun _ _ x _ _ => by cases x; kernel_rfl
def o63x2 : Array Oper := regO (pth [1, 0, 0, 1, 1, 0, 0, 0] c63v)
def r63x2 : RG X23 := fun call yl x s κ => X23.rec (motive := fun _ => MO X23) (fun m a b c d f g h i l n o p r t u w y z A B C D E s κ => natK l fun j => iaS h j 1 s (fun v0 s => ldV v0 false 1 s (fun v1 s => κ (X23.mk m a b c d v1 g h i l n v0 v1 r t u w y z A B C D E) s))) x s κ
theorem r63x2ok : RgOk P false o63x2 T23 r63x2 := fun _ _ x _ _ => by cases x; kernel_rfl
def o63x3 : Array Oper := regO (pth [1, 0, 0, 1, 1, 0, 0, 1, 0] c63v)
def r63x3 : RG X23 := fun call yl x s κ => X23.rec (motive := fun _ => MO X23) (fun m a b c d f g h i l n o p r t u w y z A B C D E s κ => ptrK b 0 s (fun v0 s => ldV v0 false 1 s (fun v1 s => binC f v1 3 .neq P s (fun v2 s => bnk (fun κ1 => wantC v2 true (κ1 a s) (κ1 .e s)) (fun v3 s => bnk (fun κ1 => wantC v2 true (κ1 f s) (κ1 .e s)) (fun v4 s => bnk (fun κ1 => wantC v2 true (callV v3 [v4] call yl s (κ1)) (κ1 .e s)) (fun v5 s => bnk (fun κ1 => wantC v2 true (notC v5 s (κ1)) (κ1 .e s)) (fun v6 s => bnk (fun κ0 => condB v2 (κ0 v6 s) (κ0 (.b false) s)) (fun v7 s => κ (X23.mk m a b c d f g h i l n o p f v0 v1 v2 v2 v3 v4 v5 v6 v7 E) s))))))))) x s κ
theorem r63x3ok : RgOk P false o63x3 T23 r63x3 := fun _ _ x _ _ => by cases x; kernel_rfl
def o63x4 : Array Oper := regO (pth [1, 0, 0, 1, 1, 1] c63v)
def r63x4 : RG X23 := fun call yl x s κ => X23.rec (motive := fun _ => MO X23) (fun m a b c d f g h i l n o p r t u w y z A B C D E s κ => binC l (.i .i64 1) 3 .add P s (fun v0 s => κ (X23.mk m a b c d f g h i v0 n o p r t u w y z A B C D v0) s)) x s κ
theorem r63x4ok : RgOk P false o63x4 T23 r63x4 := fun _ _ x _ _ => by cases x; kernel_rfl
def S63 : SF X23 := (seqS (regS P t0.fq r63x0) (blkS 0 (loopS (seqS (regS P t0.fq r63x1) (seqS (condS (fun x => X23.rec (motive := fun _ => FV) (fun _ _ _ _ _ _ _ _ _ _ z _ _ _ _ _ _ _ _ _ _ _ _ _ => z) x) skipS (exitS 0)) (seqS (blkS 1 (seqS (regS P t0.fq r63x2) (seqS (regS P t0.fq r63x3) (condS (fun x => X23.rec (motive := fun _ => FV) (fun _ _ _ _ _ _ _ _ _ _ _ _ _ _ _ _ _ _ _ _ _ _ z _ => z) x) retS skipS)))) (regS P t0.fq r63x4)))))))
theorem S63ok : Sh P t0.fq T23 c63v S63 := by
  have e : c63v = (.seq (.region 0 o63x0 false) (.block 0 (.loop (.seq (.region 1 o63x1 false) (.seq (.cond (.tmp 9) .skip (.exit 0)) (.seq (.block 1 (.seq (.region 2 o63x2 false) (.seq (.region 3 o63x3 false) (.cond (.tmp 21) .ret .skip)))) (.region 4 o63x4 false))))))) := by kernel_rfl
  rw [e]
  exact (sh_seq (sh_reg r63x0ok) (sh_blk 0 (sh_loop (sh_seq (sh_reg r63x1ok) (sh_seq (sh_cond (fun x => by cases x; rfl) sh_skip (sh_exit 0)) (sh_seq (sh_blk 1 (sh_seq (sh_reg r63x2ok) (sh_seq (sh_reg r63x3ok) (sh_cond (fun x => by cases x; rfl) sh_ret sh_skip)))) (sh_reg r63x4ok)))))))
def A63 : List FV → Option X23 := fun l => match l with
  | [a, b] => some (X23.mk [] a b .e .e .e .e .e .e .e .e .e .e .e .e .e .e .e .e .e .e .e .e .e)
  | _ => none
def L63 : LQ := shal P T23 S63 [] 4000 A63
def E63 : LA := evCall P t0.fa 4000 63
theorem G63 : Good P 63 L63 E63 := good_shal all0 (by kernel_rfl) (show FT P 63 = some (c63v, 23, []) by kernel_rfl) S63ok (fun l x h => by
    unfold A63 at h
    split at h
    · cases h; exact ⟨by kernel_rfl, by kernel_rfl⟩
    · cases h) 4000
inductive X36 where
  | mk (m : List Nat) (a b c d f g h i l n o p r t u w y z A B C D E F G H I J K L M N O Q R S : FV)
def T36 (x : X36) : FF := X36.rec (motive := fun _ => FF) (fun m a b c d f g h i l n o p r t u w y z A B C D E F G H I J K L M N O Q R S => ⟨(.n a (.n b (.n g (.n D .e .e .e .e) .e .e .e) (.n n (.n H .e .e .e .e) .e .e .e) (.n t (.n L .e .e .e .e) .e .e .e) (.n z (.n Q .e .e .e .e) .e .e .e)) (.n c (.n h (.n E .e .e .e .e) .e .e .e) (.n o (.n I .e .e .e .e) .e .e .e) (.n u (.n M .e .e .e .e) .e .e .e) (.n A (.n R .e .e .e .e) .e .e .e)) (.n d (.n i (.n F .e .e .e .e) .e .e .e) (.n p (.n J .e .e .e .e) .e .e .e) (.n w (.n N .e .e .e .e) .e .e .e) (.n B (.n S .e .e .e .e) .e .e .e)) (.n f (.n l (.n G .e .e .e .e) .e .e .e) (.n r (.n K .e .e .e .e) .e .e .e) (.n y (.n O .e .e .e .e) .e .e .e) (.n C .e .e .e .e))), 36, m⟩) x
def c68v : Code := bodyOf P 68
def o68x0 : Array Oper := regO (pth [0] c68v)
def r68x0 : RG X36 := fun call yl x s κ => X36.rec (motive := fun _ => MO X36) (fun m a b c d f g h i l n o p r t u w y z A B C D E F G H I J K L M N O Q R S s κ => κ (X36.mk m a b (.o (.sl none 0 0)) d f g h i l n o p r t u w y z A B C D E F G H I J K L M N O Q R S) s) x s κ
theorem r68x0ok : RgOk P false o68x0 T36 r68x0 := fun _ _ x _ _ => by cases x; kernel_rfl
def o68x1 : Array Oper := regO (pth [1, 0] c68v)
def r68x1 : RG X36 := fun call yl x s κ => X36.rec (motive := fun _ => MO X36) (fun m a b c d f g h i l n o p r t u w y z A B C D E F G H I J K L M N O Q R S s κ => buildSliceC P 45 0 [] s (fun v0 s => appendC P 45 45 v0 a s (fun v1 s => κ (X36.mk m a b c v1 f g v0 a v1 n o p r t u w y z A B C D E F G H I J K L M N O Q R S) s))) x s κ
theorem r68x1ok : RgOk P false o68x1 T36 r68x1 := fun _ _ x _ _ => by cases x; kernel_rfl
def o68x2 : Array Oper := regO (pth [1, 1, 0] c68v)
def r68x2 : RG X36 := fun call yl x s κ => X36.rec (motive := fun _ => MO X36) (fun m a b c d f g h i l n o p r t u w y z A B C D E F G H I J K L M N O Q R S s κ => buildSliceC P 45 1 [(0, (.i .u8 128))] s (fun v0 s => appendC P 45 45 d v0 s (fun v1 s => κ (X36.mk m a b c v1 f g h i l d v0 v1 r t u w y z A B C D E F G H I J K L M N O Q R S) s))) x s κ
theorem r68x2ok : RgOk P false o68x2 T36 r68x2 := fun _ _ x _ _ => by cases x; kernel_rfl
def o68x3 : Array Oper := regO (pth [1, 1, 1, 0, 0, 0, 0, 0] c68v)
def r68x3 : RG X36 := fun call yl x s κ => X36.rec (motive := fun _ => MO X36) (fun m a b c d f g h i l n o p r t u w y z A B C D E F G H I J K L M N O Q R S s κ => lenC d P 45 s (fun v0 s => binC v0 (.i .i64 64) 3 .rem P s (fun v1 s => binC v1 (.i .i64 56) 3 .neq P s (fun v2 s => κ (X36.mk m a b c d f g h i l n o p d v0 v1 v2 y z A B C D E F G H I J K L M N O Q R S) s)))) x s κ
theorem r68x3ok : RgOk P false o68x3 T36 r68x3 := fun _ _ x _ _ => by cases x; kernel_rfl
def o68x4 : Array Oper := regO (pth [1, 1, 1, 0, 0, 0, 1, 0] c68v)
def r68x4 : RG X36 := fun call yl x s κ => X36.rec (motive := fun _ => MO X36) (fun m a b c d f g h i l n o p r t u w y z A B C D E F G H I J K L M N O Q R S s κ => buildSliceC P 45 1 [(0, (.i .u8 0))] s (fun v0 s => appendC P 45 45 d v0 s (fun v1 s => κ (X36.mk m a b c v1 f g h i l n o p r t u w d v0 v1 B C D E F G H I J K L M N O Q R S) s))) x s κ
theorem r68x4ok : RgOk P false o68x4 T36 r68x4 := fun _ _ x _ _ => by cases x; kernel_rfl
def o68x5 : Array Oper := regO (pth [1, 1, 1, 1, 0] c68v)
def r68x5 : RG X36 := fun call yl x s κ => X36.rec (motive := fun _ => MO X36) (fun m a b c d f g h i l n o p r t u w y z A B C D E F G H I J K L M N O Q R S s κ => lenC a P 45 s (fun v0 s => cvV v0 .u64 s (fun v1 s => binC (.i .u64 8) v1 137 .mul P s (fun v2 s => κ (X36.mk m a b c d v2 g h i l n o p r t u w y z A a v0 v1 v2 F G H I J K L M N O Q R S) s)))) x s κ
theorem r68x5ok : RgOk P false o68x5 T36 r68x5 := fun _ _ x _ _ => by cases x; kernel_rfl
def o68x6 : Array Oper := regO (pth [1, 1, 1, 1, 1, 0, 0] c68v)
def r68x6 : RG X36 := fun call yl x s κ => X36.rec (motive := fun _ => MO X36) (fun m a b c d f g h i l n o p r t u w y z A B C D E F G H I J K L M N O Q R S s κ => κ (X36.mk m a b c d f (.i .i64 7) h i l n o p r t u w y z A B C D E F G H I J K L M N O Q R S) s) x s κ
theorem r68x6ok : RgOk P false o68x6 T36 r68x6 := fun _ _ x _ _ => by cases x; kernel_rfl
def o68x7 : Array Oper := regO (pth [1, 1, 1, 1, 1, 0, 1, 0, 0, 0, 0] c68v)
def r68x7 : RG X36 := fun call yl x s κ => X36.rec (motive := fun _ => MO X36) (fun m a b c d f g h i l n o p r t u w y z A B C D E F G H I J K L M N O Q R S s κ => binC g (.i .i64 0) 3 .geq P s (fun v0 s => κ (X36.mk m a b c d f g h i l n o p r t u w y z A B C D E g v0 H I J K L M N O Q R S) s)) x s κ
theorem r68x7ok : RgOk P false o68x7 T36 r68x7 := fun _ _ x _ _ => by cases x; kernel_rfl
def o68x8 : Array Oper := regO (pth [1, 1, 1, 1, 1, 0, 1, 0, 0, 1, 0, 0] c68v)
def r68x8 : RG X36 := fun call yl x s κ => X36.rec (motive := fun _ => MO X36) (fun m a b c d f g h i l n o p r t u w y z A B C D E F G H I J K L M N O Q R S s κ => binC (.i .i64 8) g 3 .mul P s (fun v0 s => binC f v0 137 .shr P s (fun v1 s => cvV v1 .u8 s (fun v2 s => buildSliceC P 45 1 [(0, v2)] s (fun v3 s => appendC P 45 45 d v3 s (fun v4 s => κ (X36.mk m a b c v4 f g h i l n o p r t u w y z A B C D E F G H I d f g v0 v1 v2 v3 v4 S) s)))))) x s κ
theorem r68x8ok : RgOk P false o68x8 T36 r68x8 := fun _ _ x _ _ => by cases x; kernel_rfl
def o68x9 : Array Oper := regO (pth [1, 1, 1, 1, 1, 0, 1, 0, 0, 1, 1] c68v)
def r68x9 : RG X36 := fun call yl x s κ => X36.rec (motive := fun _ => MO X36) (fun m a b c d f g h i l n o p r t u w y z A B C D E F G H I J K L M N O Q R S s κ => binC g (.i .i64 1) 3 .sub P s (fun v0 s => κ (X36.mk m a b c d f v0 h i l n o p r t u w y z A B C D E F G g v0 J K L M N O Q R S) s)) x s κ
theorem r68x9ok : RgOk P false o68x9 T36 r68x9 := fun _ _ x _ _ => by cases x; kernel_rfl
def o68x10 : Array Oper := regO (pth [1, 1, 1, 1, 1, 1, 0] c68v)
def r68x10 : RG X36 := fun call yl x s κ => X36.rec (motive := fun _ => MO X36) (fun m a b c d f g h i l n o p r t u w y z A B C D E F G H I J K L M N O Q R S s κ => κ (X36.mk m a b d d f g h i l n o p r t u w y z A B C D E F G H I J K L M N O Q R d) s) x s κ
theorem r68x10ok : RgOk P false o68x10 T36 r68x10 := fun _ _ x _ _ => by cases x; kernel_rfl
def S68 : SF X36 := (seqS (regS P t0.fq r68x0) (seqS (regS P t0.fq r68x1) (seqS (regS P t0.fq r68x2) (seqS (blkS 0 (loopS (seqS (seqS (regS P t0.fq r68x3) (condS (fun x => X36.rec (motive := fun _ => FV) (fun _ _ _ _ _ _ _ _ _ _ _ _ _ _ _ _ z _ _ _ _ _ _ _ _ _ _ _ _ _ _ _ _ _ _ _ _ => z) x) skipS (exitS 0))) (blkS 1 (regS P t0.fq r68x4))))) (seqS (regS P t0.fq r68x5) (seqS (seqS (regS P t0.fq r68x6) (blkS 2 (loopS (seqS (seqS (regS P t0.fq r68x7) (condS (fun x => X36.rec (motive := fun _ => FV) (fun _ _ _ _ _ _ _ _ _ _ _ _ _ _ _ _ _ _ _ _ _ _ _ _ _ z _ _ _ _ _ _ _ _ _ _ _ => z) x) skipS (exitS 2))) (seqS (blkS 3 (regS P t0.fq r68x8)) (regS P t0.fq r68x9)))))) (seqS (regS P t0.fq r68x10) retS)))))))
theorem S68ok : Sh P t0.fq T36 c68v S68 := by
  have e : c68v = (.seq (.region 0 o68x0 false) (.seq (.region 1 o68x1 false) (.seq (.region 2 o68x2 false) (.seq (.block 0 (.loop (.seq (.seq (.region 3 o68x3 false) (.cond (.tmp 15) .skip (.exit 0))) (.block 1 (.region 4 o68x4 false))))) (.seq (.region 5 o68x5 false) (.seq (.seq (.region 6 o68x6 false) (.block 2 (.loop (.seq (.seq (.region 7 o68x7 false) (.cond (.tmp 24) .skip (.exit 2))) (.seq (.block 3 (.region 9 o68x8 false)) (.region 8 o68x9 false)))))) (.seq (.region 10 o68x10 false) .ret))))))) := by kernel_rfl
  rw [e]
  exact (sh_seq (sh_reg r68x0ok) (sh_seq (sh_reg r68x1ok) (sh_seq (sh_reg r68x2ok) (sh_seq (sh_blk 0 (sh_loop (sh_seq (sh_seq (sh_reg r68x3ok) (sh_cond (fun x => by cases x; rfl) sh_skip (sh_exit 0))) (sh_blk 1 (sh_reg r68x4ok))))) (sh_seq (sh_reg r68x5ok) (sh_seq (sh_seq (sh_reg r68x6ok) (sh_blk 2 (sh_loop (sh_seq (sh_seq (sh_reg r68x7ok) (sh_cond (fun x => by cases x; rfl) sh_skip (sh_exit 2))) (sh_seq (sh_blk 3 (sh_reg r68x8ok)) (sh_reg r68x9ok)))))) (sh_seq (sh_reg r68x10ok) sh_ret)))))))
def A68 : List FV → Option X36 := fun l => match l with
  | [a] => some (X36.mk [] a .e .e .e .e .e .e .e .e .e .e .e .e .e .e .e .e .e .e .e .e .e .e .e .e .e .e .e .e .e .e .e .e .e .e .e)
  | _ => none
def L68 : LQ := shal P T36 S68 [.tmp 2] 4000 A68
def E68 : LA := evCall P t0.fa 4000 68
theorem G68 : Good P 68 L68 E68 := good_shal all0 (by kernel_rfl) (show FT P 68 = some (c68v, 36, [.tmp 2]) by kernel_rfl) S68ok (fun l x h => by
    unfold A68 at h
    split at h
    · cases h; exact ⟨by kernel_rfl, by kernel_rfl⟩
    · cases h) 4000
def c70v : Code := bodyOf P 70
def o70x0 : Array Oper := regO (pth [0] c70v)
def r70x0 : RG X19 := fun call yl x s κ => X19.rec (motive := fun _ => MO X19) (fun m a b c d f g h i l n o p r t u w y z A s κ => κ (X19.mk m a b c d (.i .i64 0) g h i l n o p r t u w y z A) s) x s κ
theorem r70x0ok : RgOk P false o70x0 T19 r70x0 := fun _ _ x _ _ => by cases x; kernel_rfl
def o70x1 : Array Oper := regO (pth [1, 0, 0] c70v)
def r70x1 : RG X19 := fun call yl x s κ => X19.rec (motive := fun _ => MO X19) (fun m a b c d f g h i l n o p r t u w y z A s κ => lenC a P 23 s (fun v0 s => κ (X19.mk m a b c d f g a v0 (.i .i64 0) n o p r t u w y z A) s)) x s κ
theorem r70x1ok : RgOk P false o70x1 T19 r70x1 := fun _ _ x _ _ => by cases x; kernel_rfl
def o70x2 : Array Oper := regO (pth [1, 0, 1, 0, 0, 0] c70v)
def r70x2 : RG X19 := fun call yl x s κ => X19.rec (motive := fun _ => MO X19) (fun m a b c d f g h i l n o p r t u w y z A s κ => binC l i 3 .lss P s (fun v0 s => κ (X19.mk m a b c d f g h i l v0 o p r t u w y z A) s)) x s κ
theorem r70x2ok : RgOk P false o70x2 T19 r70x2 := fun _ _ x _ _ => by cases x; kernel_rfl
def o70x3 : Array Oper := regO (pth [1, 0, 1, 0, 0, 1, 1, 0, 0, 0] c70v)
def r70x3 : RG X19 := fun call yl x s κ => X19.rec (motive := fun _ => MO X19) (fun m a b c d f g h i l n o p r t u w y z A s κ => κ (X19.mk m a b c d f l h i l n l p r t u w y z A) s) x s κ
theorem r70x3ok : RgOk P false o70x3 T19 r70x3 := fun _ _ x _ _ => by cases x; kernel_rfl
def o70x4 : Array Oper := regO (pth [1, 0, 1, 0, 0, 1, 1, 0, 0, 1, 0] c70v)
def r70x4 : RG X19 := fun call yl x s κ => X19.rec (motive := fun _ => MO X19) (fun m a b c d f g h i l n o p r t u w y z A s κ => natK g fun j => iaS a j 1 s (fun v0 s => ldV v0 false 1 s (fun v1 s => binC b v1 3 .eql P s (fun v2 s => κ (X19.mk m a b c d f g h i l n o b a g v0 v1 v2 z A) s)))) x s κ
theorem r70x4ok : RgOk P false o70x4 T19 r70x4 := fun _ _ x _ _ => by cases x; kernel_rfl
def o70x5 : Array Oper := regO (pth [1, 0, 1, 0, 0, 1, 1, 0, 0, 1, 1, 0, 0] c70v)
def r70x5 : RG X19 := fun call yl x s κ => X19.rec (motive := fun _ => MO X19) (fun m a b c d f g h i l n o p r t u w y z A s κ => κ (X19.mk m a b c d g g h i l n o p r t u w y g A) s) x s κ
theorem r70x5ok : RgOk P false o70x5 T19 r70x5 := fun _ _ x _ _ => by cases x; kernel_rfl
def o70x6 : Array Oper := regO (pth [1, 0, 1, 0, 0, 1, 1, 1] c70v)
def r70x6 : RG X19 := fun call yl x s κ => X19.rec (motive := fun _ => MO X19) (fun m a b c d f g h i l n o p r t u w y z A s κ => binC l (.i .i64 1) 3 .add P s (fun v0 s => κ (X19.mk m a b c d f g h i v0 n o p r t u w y z v0) s)) x s κ
theorem r70x6ok : RgOk P false o70x6 T19 r70x6 := fun _ _ x _ _ => by cases x; kernel_rfl
def o70x7 : Array Oper := regO (pth [1, 1, 0] c70v)
def r70x7 : RG X19 := fun call yl x s κ => X19.rec (motive := fun _ => MO X19) (fun m a b c d f g h i l n o p r t u w y z A s κ => κ (X19.mk m a b c d (.o (.i .i64 (.negSucc 0))) g h i l n o p r t u w y z A) s) x s κ
theorem r70x7ok : RgOk P false o70x7 T19 r70x7 := fun _ _ x _ _ => by cases x; kernel_rfl
def S70 : SF X19 := (seqS (regS P t0.fq r70x0) (seqS (seqS (regS P t0.fq r70x1) (blkS 0 (loopS (seqS (regS P t0.fq r70x2) (seqS (condS (fun x => X19.rec (motive := fun _ => FV) (fun _ _ _ _ _ _ _ _ _ _ z _ _ _ _ _ _ _ _ _ => z) x) skipS (exitS 0)) (seqS (blkS 1 (seqS (regS P t0.fq r70x3) (seqS (regS P t0.fq r70x4) (condS (fun x => X19.rec (motive := fun _ => FV) (fun _ _ _ _ _ _ _ _ _ _ _ _ _ _ _ _ _ z _ _ => z) x) (seqS (regS P t0.fq r70x5) retS) skipS)))) (regS P t0.fq r70x6))))))) (seqS (regS P t0.fq r70x7) retS)))
theorem S70ok : Sh P t0.fq T19 c70v S70 := by
  have e : c70v = (.seq (.region 0 o70x0 false) (.seq (.seq (.region 1 o70x1 false) (.block 0 (.loop (.seq (.region 2 o70x2 false) (.seq (.cond (.tmp 9) .skip (.exit 0)) (.seq (.block 1 (.seq (.region 3 o70x3 false) (.seq (.region 4 o70x4 false) (.cond (.tmp 16) (.seq (.region 5 o70x5 false) .ret) .skip)))) (.region 6 o70x6 false))))))) (.seq (.region 7 o70x7 false) .ret))) := by kernel_rfl
  rw [e]
  exact (sh_seq (sh_reg r70x0ok) (sh_seq (sh_seq (sh_reg r70x1ok) (sh_blk 0 (sh_loop (sh_seq (sh_reg r70x2ok) (sh_seq (sh_cond (fun x => by cases x; rfl) sh_skip (sh_exit 0)) (sh_seq (sh_blk 1 (sh_seq (sh_reg r70x3ok) (sh_seq (sh_reg r70x4ok) (sh_cond (fun x => by cases x; rfl) (sh_seq (sh_reg r70x5ok) sh_ret) sh_skip)))) (sh_reg r70x6ok))))))) (sh_seq (sh_reg r70x7ok) sh_ret)))
def A70 : List FV → Option X19 := fun l => match l with
  | [a, b] => some (X19.mk [] a b .e .e .e .e .e .e .e .e .e .e .e .e .e .e .e .e .e)
  | _ => none
def L70 : LQ := shal P T19 S70 [.tmp 4] 4000 A70
def E70 : LA := evCall P t0.fa 4000 70
theorem G70 : Good P 70 L70 E70 := good_shal all0 (by kernel_rfl) (show FT P 70 = some (c70v, 19, [.tmp 4]) by kernel_rfl) S70ok (fun l x h => by
    unfold A70 at h
    split at h
    · cases h; exact ⟨by kernel_rfl, by kernel_rfl⟩
    · cases h) 4000
def c72v : Code := bodyOf P 72
def o72x0 : Array Oper := regO (pth [0] c72v)
def r72x0 : RG X9 := fun call yl x s κ => X9.rec (motive := fun _ => MO X9) (fun m a b c d f g h i l s κ => κ (X9.mk m a b (.b false) d f g h i l) s) x s κ
theorem r72x0ok : RgOk P false o72x0 T9 r72x0 := fun _ _ x _ _ => by cases x; kernel_rfl
def o72x1 : Array Oper := regO (pth [1, 0] c72v)
def r72x1 : RG X9 := fun call yl x s κ => X9.rec (motive := fun _ => MO X9) (fun m a b c d f g h i l s κ => binC (.i .i64 0) a 3 .leq P s (fun v0 s => bnk (fun κ1 => wantC v0 true (κ1 a s) (κ1 .e s)) (fun v1 s => bnk (fun κ1 => wantC v0 true (binC v1 (.i .i64 16) 3 .lss P s (κ1)) (κ1 .e s)) (fun v2 s => bnk (fun κ0 => condB v0 (κ0 v2 s) (κ0 (.b false) s)) (fun v3 s => κ (X9.mk m a b v3 a v0 v0 v1 v2 v3) s))))) x s κ
theorem r72x1ok : RgOk P false o72x1 T9 r72x1 := fun _ _ x _ _ => by cases x; kernel_rfl
def S72 : SF X9 := (seqS (regS P t0.fq r72x0) (seqS (regS P t0.fq r72x1) retS))
theorem S72ok : Sh P t0.fq T9 c72v S72 := by
  have e : c72v = (.seq (.region 0 o72x0 false) (.seq (.region 1 o72x1 false) .ret)) := by kernel_rfl
  rw [e]
  exact (sh_seq (sh_reg r72x0ok) (sh_seq (sh_reg r72x1ok) sh_ret))
def A72 : List FV → Option X9 := fun l => match l with
  | [a] => some (X9.mk [] a .e .e .e .e .e .e .e .e)
  | _ => none
def L72 : LQ := shal P T9 S72 [.tmp 2] 4000 A72
def E72 : LA := evCall P t0.fa 4000 72
theorem G72 : Good P 72 L72 E72 := good_shal all0 (by kernel_rfl) (show FT P 72 = some (c72v, 9, [.tmp 2]) by kernel_rfl) S72ok (fun l x h => by
    unfold A72 at h
    split at h
    · cases h; exact ⟨by kernel_rfl, by kernel_rfl⟩
    · cases h) 4000
inductive X35 where
  | mk (m : List Nat) (a b c d f g h i l n o p r t u w y z A B C D E F G H I J K L M N O Q R : FV)
def T35 (x : X35) : FF := X35.rec (motive := fun _ => FF) (fun m a b c d f g h i l n o p r t u w y z A B C D E F G H I J K L M N O Q R => ⟨(.n a (.n b (.n g (.n D .e .e .e .e) .e .e .e) (.n n (.n H .e .e .e .e) .e .e .e) (.n t (.n L .e .e .e .e) .e .e .e) (.n z (.n Q .e .e .e .e) .e .e .e)) (.n c (.n h (.n E .e .e .e .e) .e .e .e) (.n o (.n I .e .e .e .e) .e .e .e) (.n u (.n M .e .e .e .e) .e .e .e) (.n A (.n R .e .e .e .e) .e .e .e)) (.n d (.n i (.n F .e .e .e .e) .e .e .e) (.n p (.n J .e .e .e .e) .e .e .e) (.n w (.n N .e .e .e .e) .e .e .e) (.n B .e .e .e .e)) (.n f (.n l (.n G .e .e .e .e) .e .e .e) (.n r (.n K .e .e .e .e) .e .e .e) (.n y (.n O .e .e .e .e) .e .e .e) (.n C .e .e .e .e))), 35, m⟩) x
def c75v : Code := bodyOf P 75
def o75x0 : Array Oper := regO (pth [0] c75v)
def r75x0 : RG X35 := fun call yl x s κ => X35.rec (motive := fun _ => MO X35) (fun m a b c d f g h i l n o p r t u w y z A B C D E F G H I J K L M N O Q R s κ => bxV a 34 s (fun v0 s => κ (X35.mk m a v0 (.b false) d f g h i l n o p r t u w y z A B C D E F G H I J K L M N O Q R) s)) x s κ
theorem r75x0ok : RgOk P false o75x0 T35 r75x0 := fun _ _ x _ _ => by cases x; kernel_rfl
def o75x1 : Array Oper := regO (pth [1, 0] c75v)
def r75x1 : RG X35 := fun call yl x s κ => X35.rec (motive := fun _ => MO X35) (fun m a b c d f g h i l n o p r t u w y z A B C D E F G H I J K L M N O Q R s κ => ptrK b 0 s (fun v0 s => ldV v0 false 1 s (fun v1 s => lenC v1 P 31 s (fun v2 s => ptrK b 6 s (fun v3 s => ldV v3 false 1 s (fun v4 s => lenC v4 P 32 s (fun v5 s => binC v2 v5 3 .add P s (fun v6 s => ptrK b 3 s (fun v7 s => ldV v7 false 1 s (fun v8 s => lenC v8 P 9 s (fun v9 s => binC v6 v9 3 .add P s (fun v10 s => binC v10 (.i .i64 0) 3 .eql P s (fun v11 s => bnk (fun κ1 => wantC v11 true (ptrK b 1 s (κ1)) (κ1 .e s)) (fun v12 s => bnk (fun κ1 => wantC v11 true (ldV v12 false 1 s (κ1)) (κ1 .e s)) (fun v13 s => bnk (fun κ1 => wantC v11 true (binC v13 (.i .i64 0) 3 .eql P s (κ1)) (κ1 .e s)) (fun v14 s => bnk (fun κ0 => condB v11 (κ0 v14 s) (κ0 (.b false) s)) (fun v15 s => bnk (fun κ1 => wantC v15 true (ptrK b 2 s (κ1)) (κ1 .e s)) (fun v16 s => bnk (fun κ1 => wantC v15 true (ldV v16 false 1 s (κ1)) (κ1 .e s)) (fun v17 s => bnk (fun κ1 => wantC v15 true (binC v17 (.i .i64 0) 3 .eql P s (κ1)) (κ1 .e s)) (fun v18 s => bnk (fun κ0 => condB v15 (κ0 v18 s) (κ0 (.b false) s)) (fun v19 s => bnk (fun κ1 => wantC v19 true (ptrK b 4 s (κ1)) (κ1 .e s)) (fun v20 s => bnk (fun κ1 => wantC v19 true (ldV v20 false 1 s (κ1)) (κ1 .e s)) (fun v21 s => bnk (fun κ1 => wantC v19 true (binC v21 (.i .i64 0) 3 .eql P s (κ1)) (κ1 .e s)) (fun v22 s => bnk (fun κ0 => condB v19 (κ0 v22 s) (κ0 (.b false) s)) (fun v23 s => bnk (fun κ1 => wantC v23 true (ptrK b 5 s (κ1)) (κ1 .e s)) (fun v24 s => bnk (fun κ1 => wantC v23 true (ldV v24 false 1 s (κ1)) (κ1 .e s)) (fun v25 s => bnk (fun κ1 => wantC v23 true (binC v25 (.i .i64 0) 3 .eql P s (κ1)) (κ1 .e s)) (fun v26 s => bnk (fun κ0 => condB v23 (κ0 v26 s) (κ0 (.b false) s)) (fun v27 s => κ (X35.mk m a b v27 v0 v1 v2 v3 v4 v5 v6 v7 v8 v9 v10 v11 v11 v12 v13 v14 v15 v15 v16 v17 v18 v19 v19 v20 v21 v22 v23 v23 v24 v25 v26 v27) s))))))))))))))))))))))))))))) x s κ
theorem r75x1ok : RgOk P false o75x1 T35 r75x1 := fun _ _ x _ _ => by cases x; kernel_rfl
def S75 : SF X35 := (seqS (regS P t0.fq r75x0) (seqS (regS P t0.fq r75x1) retS))
theorem S75ok : Sh P t0.fq T35 c75v S75 := by
  have e : c75v = (.seq (.region 0 o75x0 false) (.seq (.region 1 o75x1 false) .ret)) := by kernel_rfl
  rw [e]
  exact (sh_seq (sh_reg r75x0ok) (sh_seq (sh_reg r75x1ok) sh_ret))
def A75 : List FV → Option X35 := fun l => match l with
  | [a] => some (X35.mk [] a .e .e .e .e .e .e .e .e .e .e .e .e .e .e .e .e .e .e .e .e .e .e .e .e .e .e .e .e .e .e .e .e .e .e)
  | _ => none
def L75 : LQ := shal P T35 S75 [.tmp 2] 4000 A75
def E75 : LA := evCall P t0.fa 4000 75
theorem G75 : Good P 75 L75 E75 := good_shal all0 (by kernel_rfl) (show FT P 75 = some (c75v, 35, [.tmp 2]) by kernel_rfl) S75ok (fun l x h => by
    unfold A75 at h
    split at h
    · cases h; exact ⟨by kernel_rfl, by kernel_rfl⟩
    · cases h) 4000
inductive X18 where
  | mk (m : List Nat) (a b c d f g h i l n o p r t u w y z : FV)
def T18 (x : X18) : FF := X18.rec (motive := fun _ => FF) (fun m a b c d f g h i l n o p r t u w y z => ⟨(.n a (.n b (.n g .e .e .e .e) (.n n .e .e .e .e) (.n t .e .e .e .e) (.n z .e .e .e .e)) (.n c (.n h .e .e .e .e) (.n o .e .e .e .e) (.n u .e .e .e .e) .e) (.n d (.n i .e .e .e .e) (.n p .e .e .e .e) (.n w .e .e .e .e) .e) (.n f (.n l .e .e .e .e) (.n r .e .e .e .e) (.n y .e .e .e .e) .e)), 18, m⟩) x
def c80v : Code := bodyOf P 80
def o80x0 : Array Oper := regO (pth [0] c80v)
def r80x0 : RG X18 := fun call yl x s κ => X18.rec (motive := fun _ => MO X18) (fun m a b c d f g h i l n o p r t u w y z s κ => κ (X18.mk m a b (.o (.sl none 0 0)) d f g h i l n o p r t u w y z) s) x s κ
theorem r80x0ok : RgOk P false o80x0 T18 r80x0 := fun _ _ x _ _ => by cases x; kernel_rfl
def o80x1 : Array Oper := regO (pth [1, 0] c80v)
def r80x1 : RG X18 := fun call yl x s κ => X18.rec (motive := fun _ => MO X18) (fun m a b c d f g h i l n o p r t u w y z s κ => allocC P 164 s (fun v0 s => κ (X18.mk m a b c v0 f g h i l n o p r t u w y z) s)) x s κ
theorem r80x1ok : RgOk P false o80x1 T18 r80x1 := fun _ _ x _ _ => by cases x; kernel_rfl
def o80x2 : Array Oper := regO (pth [1, 1, 0, 0] c80v)
def r80x2 : RG X18 := fun call yl x s κ => X18.rec (motive := fun _ => MO X18) (fun m a b c d f g h i l n o p r t u w y z s κ => κ (X18.mk m a b c d f (.i .i64 0) h i l n o p r t u w y z) s) x s κ
theorem r80x2ok : RgOk P false o80x2 T18 r80x2 := fun _ _ x _ _ => by cases x; kernel_rfl
def o80x3 : Array Oper := regO (pth [1, 1, 0, 1, 0, 0, 0] c80v)
def r80x3 : RG X18 := fun call yl x s κ => X18.rec (motive := fun _ => MO X18) (fun m a b c d f g h i l n o p r t u w y z s κ => binC g (.i .i64 8) 3 .lss P s (fun v0 s => κ (X18.mk m a b c d f g v0 i l n o p r t u w y z) s)) x s κ
theorem r80x3ok : RgOk P false o80x3 T18 r80x3 := fun _ _ x _ _ => by cases x; kernel_rfl
def o80x4 : Array Oper := regO (pth [1, 1, 0, 1, 0, 0, 1, 1, 0, 0, 0] c80v)
def r80x4 : RG X18 := fun call yl x s κ => X18.rec (motive := fun _ => MO X18) (fun m a b c d f g h i l n o p r t u w y z s κ => κ (X18.mk m a b c d g g h g l n o p r t u w y z) s) x s κ
theorem r80x4ok : RgOk P false o80x4 T18 r80x4 := fun _ _ x _ _ => by cases x; kernel_rfl
def o80x5 : Array Oper := regO (pth [1, 1, 0, 1, 0, 0, 1, 1, 0, 0, 1] c80v)
def r80x5 : RG X18 := fun call yl x s κ => X18.rec (motive := fun _ => MO X18) (fun m a b c d f g h i l n o p r t u w y z s κ => cvV a .u64 s (fun v0 s => binC (.i .i64 8) f 3 .mul P s (fun v1 s => binC v0 v1 137 .shr P s (fun v2 s => cvV v2 .u8 s (fun v3 s => natK f fun j => iaP d 8 j 1 s (fun v4 s => stA v4 v3 1 s (fun _ s => κ (X18.mk m a b c d f g h i f a v0 f v1 v2 v3 v4 y z) s))))))) x s κ
theorem r80x5ok : RgOk P false o80x5 T18 r80x5 := fun _ _ x _ _ => by cases x; kernel_rfl
def o80x6 : Array Oper := regO (pth [1, 1, 0, 1, 0, 0, 1, 1, 1] c80v)
def r80x6 : RG X18 := fun call yl x s κ => X18.rec (motive := fun _ => MO X18) (fun m a b c d f g h i l n o p r t u w y z s κ => binC g (.i .i64 1) 3 .add P s (fun v0 s => κ (X18.mk m a b c d f v0 h i l n o p r t u w v0 z) s)) x s κ
theorem r80x6ok : RgOk P false o80x6 T18 r80x6 := fun _ _ x _ _ => by cases x; kernel_rfl
def o80x7 : Array Oper := regO (pth [1, 1, 1, 0] c80v)
def r80x7 : RG X18 := fun call yl x s κ => X18.rec (motive := fun _ => MO X18) (fun m a b c d f g h i l n o p r t u w y z s κ => sliceC P 164 d none none none s (fun v0 s => κ (X18.mk m a b v0 d f g h i l n o p r t u w y v0) s)) x s κ
theorem r80x7ok : RgOk P false o80x7 T18 r80x7 := fun _ _ x _ _ => by cases x; kernel_rfl
def S80 : SF X18 := (seqS (regS P t0.fq r80x0) (seqS (regS P t0.fq r80x1) (seqS (seqS (regS P t0.fq r80x2) (blkS 0 (loopS (seqS (regS P t0.fq r80x3) (seqS (condS (fun x => X18.rec (motive := fun _ => FV) (fun _ _ _ _ _ _ _ z _ _ _ _ _ _ _ _ _ _ _ => z) x) skipS (exitS 0)) (seqS (blkS 1 (seqS (regS P t0.fq r80x4) (regS P t0.fq r80x5))) (regS P t0.fq r80x6))))))) (seqS (regS P t0.fq r80x7) retS))))
theorem S80ok : Sh P t0.fq T18 c80v S80 := by
  have e : c80v = (.seq (.region 0 o80x0 false) (.seq (.region 1 o80x1 false) (.seq (.seq (.region 2 o80x2 false) (.block 0 (.loop (.seq (.region 3 o80x3 false) (.seq (.cond (.tmp 6) .skip (.exit 0)) (.seq (.block 1 (.seq (.region 4 o80x4 false) (.region 5 o80x5 false))) (.region 6 o80x6 false))))))) (.seq (.region 7 o80x7 false) .ret)))) := by kernel_rfl
  rw [e]
  exact (sh_seq (sh_reg r80x0ok) (sh_seq (sh_reg r80x1ok) (sh_seq (sh_seq (sh_reg r80x2ok) (sh_blk 0 (sh_loop (sh_seq (sh_reg r80x3ok) (sh_seq (sh_cond (fun x => by cases x; rfl) sh_skip (sh_exit 0)) (sh_seq (sh_blk 1 (sh_seq (sh_reg r80x4ok) (sh_reg r80x5ok))) (sh_reg r80x6ok))))))) (sh_seq (sh_reg r80x7ok) sh_ret))))
def A80 : List FV → Option X18 := fun l => match l with
  | [a] => some (X18.mk [] a .e .e .e .e .e .e .e .e .e .e .e .e .e .e .e .e .e)
  | _ => none
def L80 : LQ := shal P T18 S80 [.tmp 2] 4000 A80
def E80 : LA := evCall P t0.fa 4000 80
theorem G80 : Good P 80 L80 E80 := good_shal all0 (by kernel_rfl) (show FT P 80 = some (c80v, 18, [.tmp 2]) by kernel_rfl) S80ok (fun l x h => by
    unfold A80 at h
    split at h
    · cases h; exact ⟨by kernel_rfl, by kernel_rfl⟩
    · cases h) 4000
def c89v : Code := bodyOf P 89
def o89x0 : Array Oper := regO (pth [0] c89v)
def r89x0 : RG X52 := fun call yl x s κ => X52.rec (motive := fun _ => MO X52) (fun m a b c d f g h i l n o p r t u w y z A B C D E F G H I J K L M N O Q R S T U W Y Z a1 b1 c1 d1 f1 g1 h1 i1 l1 n1 o1 s κ => κ (X52.mk m a b (.o (.sl none 0 0)) d f g h i l n o p r t u w y z A B C D E F G H I J K L M N O Q R S T U W Y Z a1 b1 c1 d1 f1 g1 h1 i1 l1 n1 o1) s) x s κ
theorem r89x0ok : RgOk P false o89x0 T52 r89x0 := fun _ _ x _ _ => by cases x; kernel_rfl
def o89x1 : Array Oper := regO (pth [1, 0, 0] c89v)
def r89x1 : RG X52 := fun call yl x s κ => X52.rec (motive := fun _ => MO X52) (fun m a b c d f g h i l n o p r t u w y z A B C D E F G H I J K L M N O Q R S T U W Y Z a1 b1 c1 d1 f1 g1 h1 i1 l1 n1 o1 s κ => κ (X52.mk m a b c a f g h i l n o p r t u w y z A B C D E F G H I J K L M N O Q R S T U W Y Z a1 b1 c1 d1 f1 g1 h1 i1 l1 n1 o1) s) x s κ
theorem r89x1ok : RgOk P false o89x1 T52 r89x1 := fun _ _ x _ _ => by cases x; kernel_rfl
def o89x2 : Array Oper := regO (pth [1, 0, 1, 0, 0] c89v)
def r89x2 : RG X52 := fun call yl x s κ => X52.rec (motive := fun _ => MO X52) (fun m a b c d f g h i l n o p r t u w y z A B C D E F G H I J K L M N O Q R S T U W Y Z a1 b1 c1 d1 f1 g1 h1 i1 l1 n1 o1 s κ => binC d (.i .i64 1) 3 .eql P s (fun v0 s => κ (X52.mk m a b c d v0 v0 h i l n o p r t u w y z A B C D E F G H I J K L M N O Q R S T U W Y Z a1 b1 c1 d1 f1 g1 h1 i1 l1 n1 o1) s)) x s κ
theorem r89x2ok : RgOk P false o89x2 T52 r89x2 := fun _ _ x _ _ => by cases x; kernel_rfl
def o89x3 : Array Oper := regO (pth [1, 0, 1, 0, 1, 0, 0] c89v)
def r89x3 : RG X52 := fun call yl x s κ => X52.rec (motive := fun _ => MO X52) (fun m a b c d f g h i l n o p r t u w y z A B C D E F G H I J K L M N O Q R S T U W Y Z a1 b1 c1 d1 f1 g1 h1 i1 l1 n1 o1 s κ => buildSliceC P 23 4 [(0, (.i .i64 0)), (1, (.i .i64 1)), (2, (.i .i64 4)), (3, (.i .i64 10))] s (fun v0 s => κ (X52.mk m a b v0 d f g v0 i l n o p r t u w y z A B C D E F G H I J K L M N O Q R S T U W Y Z a1 b1 c1 d1 f1 g1 h1 i1 l1 n1 o1) s)) x s κ
theorem r89x3ok : RgOk P false o89x3 T52 r89x3 := fun _ _ x _ _ => by cases x; kernel_rfl
def o89x4 : Array Oper := regO (pth [1, 0, 1, 0, 1, 1, 0, 0] c89v)
def r89x4 : RG X52 := fun call yl x s κ => X52.rec (motive := fun _ => MO X52) (fun m a b c d f g h i l n o p r t u w y z A B C D E F G H I J K L M N O Q R S T U W Y Z a1 b1 c1 d1 f1 g1 h1 i1 l1 n1 o1 s κ => binC d (.i .i64 2) 3 .eql P s (fun v0 s => κ (X52.mk m a b c d f g h v0 v0 n o p r t u w y z A B C D E F G H I J K L M N O Q R S T U W Y Z a1 b1 c1 d1 f1 g1 h1 i1 l1 n1 o1) s)) x s κ
theorem r89x4ok : RgOk P false o89x4 T52 r89x4 := fun _ _ x _ _ => by cases x; kernel_rfl
def o89x5 : Array Oper := regO (pth [1, 0, 1, 0, 1, 1, 0, 1, 1] c89v)
def r89x5 : RG X52 := fun call yl x s κ => X52.rec (motive := fun _ => MO X52) (fun m a b c d f g h i l n o p r t u w y z A B C D E F G H I J K L M N O Q R S T U W Y Z a1 b1 c1 d1 f1 g1 h1 i1 l1 n1 o1 s κ => binC d (.i .i64 3) 3 .eql P s (fun v0 s => κ (X52.mk m a b c d f g h v0 l v0 o p r t u w y z A B C D E F G H I J K L M N O Q R S T U W Y Z a1 b1 c1 d1 f1 g1 h1 i1 l1 n1 o1) s)) x s κ
theorem r89x5ok : RgOk P false o89x5 T52 r89x5 := fun _ _ x _ _ => by cases x; kernel_rfl
def o89x6 : Array Oper := regO (pth [1, 0, 1, 0, 1, 1, 1, 0, 0] c89v)
def r89x6 : RG X52 := fun call yl x s κ => X52.rec (motive := fun _ => MO X52) (fun m a b c d f g h i l n o p r t u w y z A B C D E F G H I J K L M N O Q R S T U W Y Z a1 b1 c1 d1 f1 g1 h1 i1 l1 n1 o1 s κ => buildSliceC P 23 3 [(0, (.i .i64 0)), (1, (.i .i64 1)), (2, (.i .i64 4))] s (fun v0 s => κ (X52.mk m a b v0 d f g h i l n v0 p r t u w y z A B C D E F G H I J K L M N O Q R S T U W Y Z a1 b1 c1 d1 f1 g1 h1 i1 l1 n1 o1) s)) x s κ
theorem r89x6ok : RgOk P false o89x6 T52 r89x6 := fun _ _ x _ _ => by cases x; kernel_rfl
def o89x7 : Array Oper := regO (pth [1, 0, 1, 0, 1, 1, 1, 1, 0] c89v)
def r89x7 : RG X52 := fun call yl x s κ => X52.rec (motive := fun _ => MO X52) (fun m a b c d f g h i l n o p r t u w y z A B C D E F G H I J K L M N O Q R S T U W Y Z a1 b1 c1 d1 f1 g1 h1 i1 l1 n1 o1 s κ => binC d (.i .i64 4) 3 .eql P s (fun v0 s => κ (X52.mk m a b c d f g h i l n o v0 v0 t u w y z A B C D E F G H I J K L M N O Q R S T U W Y Z a1 b1 c1 d1 f1 g1 h1 i1 l1 n1 o1) s)) x s κ
theorem r89x7ok : RgOk P false o89x7 T52 r89x7 := fun _ _ x _ _ => by cases x; kernel_rfl
def o89x8 : Array Oper := regO (pth [1, 0, 1, 0, 1, 1, 1, 1, 1, 0, 0] c89v)
def r89x8 : RG X52 := fun call yl x s κ => X52.rec (motive := fun _ => MO X52) (fun m a b c d f g h i l n o p r t u w y z A B C D E F G H I J K L M N O Q R S T U W Y Z a1 b1 c1 d1 f1 g1 h1 i1 l1 n1 o1 s κ => buildSliceC P 23 4 [(0, (.i .i64 0)), (1, (.i .i64 1)), (2, (.i .i64 4)), (3, (.i .i64 9))] s (fun v0 s => κ (X52.mk m a b v0 d f g h i l n o p r v0 u w y z A B C D E F G H I J K L M N O Q R S T U W Y Z a1 b1 c1 d1 f1 g1 h1 i1 l1 n1 o1) s)) x s κ
theorem r89x8ok : RgOk P false o89x8 T52 r89x8 := fun _ _ x _ _ => by cases x; kernel_rfl
def o89x9 : Array Oper := regO (pth [1, 0, 1, 0, 1, 1, 1, 1, 1, 1, 0] c89v)
def r89x9 : RG X52 := fun call yl x s κ => X52.rec (motive := fun _ => MO X52) (fun m a b c d f g h i l n o p r t u w y z A B C D E F G H I J K L M N O Q R S T U W Y Z a1 b1 c1 d1 f1 g1 h1 i1 l1 n1 o1 s κ => binC d (.i .i64 5) 3 .eql P s (fun v0 s => κ (X52.mk m a b c d f g h i l n o p r t v0 v0 y z A B C D E F G H I J K L M N O Q R S T U W Y Z a1 b1 c1 d1 f1 g1 h1 i1 l1 n1 o1) s)) x s κ
theorem r89x9ok : RgOk P false o89x9 T52 r89x9 := fun _ _ x _ _ => by cases x; kernel_rfl
def o89x10 : Array Oper := regO (pth [1, 0, 1, 0, 1, 1, 1, 1, 1, 1, 1, 0, 0] c89v)
def r89x10 : RG X52 := fun call yl x s κ => X52.rec (motive := fun _ => MO X52) (fun m a b c d f g h i l n o p r t u w y z A B C D E F G H I J K L M N O Q R S T U W Y Z a1 b1 c1 d1 f1 g1 h1 i1 l1 n1 o1 s κ => buildSliceC P 23 4 [(0, (.i .i64 0)), (1, (.i .i64 1)), (2, (.i .i64 4)), (3, (.i .i64 5))] s (fun v0 s => κ (X52.mk m a b v0 d f g h i l n o p r t u w v0 z A B C D E F G H I J K L M N O Q R S T U W Y Z a1 b1 c1 d1 f1 g1 h1 i1 l1 n1 o1) s)) x s κ
theorem r89x10ok : RgOk P false o89x10 T52 r89x10 := fun _ _ x _ _ => by cases x; kernel_rfl
def o89x11 : Array Oper := regO (pth [1, 0, 1, 0, 1, 1, 1, 1, 1, 1, 1, 1, 0] c89v)
def r89x11 : RG X52 := fun call yl x s κ => X52.rec (motive := fun _ => MO X52) (fun m a b c d f g h i l n o p r t u w y z A B C D E F G H I J K L M N O Q R S T U W Y Z a1 b1 c1 d1 f1 g1 h1 i1 l1 n1 o1 s κ => binC d (.i .i64 6) 3 .eql P s (fun v0 s => κ (X52.mk m a b c d f g h i l n o p r t u w y v0 v0 B C D E F G H I J K L M N O Q R S T U W Y Z a1 b1 c1 d1 f1 g1 h1 i1 l1 n1 o1) s)) x s κ
theorem r89x11ok : RgOk P false o89x11 T52 r89x11 := fun _ _ x _ _ => by cases x; kernel_rfl
def o89x12 : Array Oper := regO (pth [1, 0, 1, 0, 1, 1, 1, 1, 1, 1, 1, 1, 1, 0, 0] c89v)
def r89x12 : RG X52 := fun call yl x s κ => X52.rec (motive := fun _ => MO X52) (fun m a b c d f g h i l n o p r t u w y z A B C D E F G H I J K L M N O Q R S T U W Y Z a1 b1 c1 d1 f1 g1 h1 i1 l1 n1 o1 s κ => buildSliceC P 23 6 [(0, (.i .i64 0)), (1, (.i .i64 1)), (2, (.i .i64 7)), (3, (.i .i64 8)), (4, (.i .i64 9)), (5, (.i .i64 10))] s (fun v0 s => κ (X52.mk m a b v0 d f g h i l n o p r t u w y z A v0 C D E F G H I J K L M N O Q R S T U W Y Z a1 b1 c1 d1 f1 g1 h1 i1 l1 n1 o1) s)) x s κ
theorem r89x12ok : RgOk P false o89x12 T52 r89x12 := fun _ _ x _ _ => by cases x; kernel_rfl
def o89x13 : Array Oper := regO (pth [1, 0, 1, 0, 1, 1, 1, 1, 1, 1, 1, 1, 1, 1, 0] c89v)
def r89x13 : RG X52 := fun call yl x s κ => X52.rec (motive := fun _ => MO X52) (fun m a b c d f g h i l n o p r t u w y z A B C D E F G H I J K L M N O Q R S T U W Y Z a1 b1 c1 d1 f1 g1 h1 i1 l1 n1 o1 s κ => binC d (.i .i64 7) 3 .eql P s (fun v0 s => κ (X52.mk m a b c d f g h i l n o p r t u w y z A B v0 v0 E F G H I J K L M N O Q R S T U W Y Z a1 b1 c1 d1 f1 g1 h1 i1 l1 n1 o1) s)) x s κ
theorem r89x13ok : RgOk P false o89x13 T52 r89x13 := fun _ _ x _ _ => by cases x; kernel_rfl
def o89x14 : Array Oper := regO (pth [1, 0, 1, 0, 1, 1, 1, 1, 1, 1, 1, 1, 1, 1, 1, 0, 0] c89v)
def r89x14 : RG X52 := fun call yl x s κ => X52.rec (motive := fun _ => MO X52) (fun m a b c d f g h i l n o p r t u w y z A B C D E F G H I J K L M N O Q R S T U W Y Z a1 b1 c1 d1 f1 g1 h1 i1 l1 n1 o1 s κ => buildSliceC P 23 2 [(0, (.i .i64 0)), (1, (.i .i64 1))] s (fun v0 s => κ (X52.mk m a b v0 d f g h i l n o p r t u w y z A B C D v0 F G H I J K L M N O Q R S T U W Y Z a1 b1 c1 d1 f1 g1 h1 i1 l1 n1 o1) s)) x s κ
theorem r89x14ok : RgOk P false o89x14 T52 r89x14 := fun _ _ x _ _ => by cases x; kernel_rfl
def o89x15 : Array Oper := regO (pth [1, 0, 1, 0, 1, 1, 1, 1, 1, 1, 1, 1, 1, 1, 1, 1, 0] c89v)
def r89x15 : RG X52 := fun call yl x s κ => X52.rec (motive := fun _ => MO X52) (fun m a b c d f g h i l n o p r t u w y z A B C D E F G H I J K L M N O Q R S T U W Y Z a1 b1 c1 d1 f1 g1 h1 i1 l1 n1 o1 s κ => binC d (.i .i64 8) 3 .eql P s (fun v0 s => κ (X52.mk m a b c d f g h i l n o p r t u w y z A B C D E v0 v0 H I J K L M N O Q R S T U W Y Z a1 b1 c1 d1 f1 g1 h1 i1 l1 n1 o1) s)) x s κ
theorem r89x15ok : RgOk P false o89x15 T52 r89x15 := fun _ _ x _ _ => by cases x; kernel_rfl
def o89x16 : Array Oper := regO (pth [1, 0, 1, 0, 1, 1, 1, 1, 1, 1, 1, 1, 1, 1, 1, 1, 1, 0, 0] c89v)
def r89x16 : RG X52 := fun call yl x s κ => X52.rec (motive := fun _ => MO X52) (fun m a b c d f g h i l n o p r t u w y z A B C D E F G H I J K L M N O Q R S T U W Y Z a1 b1 c1 d1 f1 g1 h1 i1 l1 n1 o1 s κ => buildSliceC P 23 8 [(0, (.i .i64 0)), (1, (.i .i64 4)), (2, (.i .i64 5)), (3, (.i .i64 6)), (4, (.i .i64 10)), (5, (.i .i64 11)), (6, (.i .i64 12)), (7, (.i .i64 15))] s (fun v0 s => κ (X52.mk m a b v0 d f g h i l n o p r t u w y z A B C D E F G v0 I J K L M N O Q R S T U W Y Z a1 b1 c1 d1 f1 g1 h1 i1 l1 n1 o1) s)) x s κ
theorem r89x16ok : RgOk P false o89x16 T52 r89x16 := fun _ _ x _ _ => by cases x; kernel_rfl
def o89x17 : Array Oper := regO (pth [1, 0, 1, 0, 1, 1, 1, 1, 1, 1, 1, 1, 1, 1, 1, 1, 1, 1, 0] c89v)
def r89x17 : RG X52 := fun call yl x s κ => X52.rec (motive := fun _ => MO X52) (fun m a b c d f g h i l n o p r t u w y z A B C D E F G H I J K L M N O Q R S T U W Y Z a1 b1 c1 d1 f1 g1 h1 i1 l1 n1 o1 s κ => binC d (.i .i64 9) 3 .eql P s (fun v0 s => κ (X52.mk m a b c d f g h i l n o p r t u w y z A B C D E F G H v0 v0 K L M N O Q R S T U W Y Z a1 b1 c1 d1 f1 g1 h1 i1 l1 n1 o1) s)) x s κ
theorem r89x17ok : RgOk P false o89x17 T52 r89x17 := fun _ _ x _ _ => by cases x; kernel_rfl
def o89x18 : Array Oper := regO (pth [1, 0, 1, 0, 1, 1, 1, 1, 1, 1, 1, 1, 1, 1, 1, 1, 1, 1, 1, 0, 0] c89v)
def r89x18 : RG X52 := fun call yl x s κ => X52.rec (motive := fun _ => MO X52) (fun m a b c d f g h i l n o p r t u w y z A B C D E F G H I J K L M N O Q R S T U W Y Z a1 b1 c1 d1 f1 g1 h1 i1 l1 n1 o1 s κ => buildSliceC P 23 5 [(0, (.i .i64 0)), (1, (.i .i64 6)), (2, (.i .i64 11)), (3, (.i .i64 15)), (4, (.i .i64 16))] s (fun v0 s => κ (X52.mk m a b v0 d f g h i l n o p r t u w y z A B C D E F G H I J v0 L M N O Q R S T U W Y Z a1 b1 c1 d1 f1 g1 h1 i1 l1 n1 o1) s)) x s κ
theorem r89x18ok : RgOk P false o89x18 T52 r89x18 := fun _ _ x _ _ => by cases x; kernel_rfl
def o89x19 : Array Oper := regO (pth [1, 0, 1, 0, 1, 1, 1, 1, 1, 1, 1, 1, 1, 1, 1, 1, 1, 1, 1, 1, 0] c89v)
def r89x19 : RG X52 := fun call yl x s κ => X52.rec (motive := fun _ => MO X52) (fun m a b c d f g h i l n o p r t u w y z A B C D E F G H I J K L M N O Q R S T U W Y Z a1 b1 c1 d1 f1 g1 h1 i1 l1 n1 o1 s κ => binC d (.i .i64 10) 3 .eql P s (fun v0 s => κ (X52.mk m a b c d f g h i l n o p r t u w y z A B C D E F G H I J K v0 v0 N O Q R S T U W Y Z a1 b1 c1 d1 f1 g1 h1 i1 l1 n1 o1) s)) x s κ
theorem r89x19ok : RgOk P false o89x19 T52 r89x19 := fun _ _ x _ _ => by cases x; kernel_rfl
def o89x20 : Array Oper := regO (pth [1, 0, 1, 0, 1, 1, 1, 1, 1, 1, 1, 1, 1, 1, 1, 1, 1, 1, 1, 1, 1, 0, 0] c89v)
def r89x20 : RG X52 := fun call yl x s κ => X52.rec (motive := fun _ => MO X52) (fun m a b c d f g h i l n o p r t u w y z A B C D E F G H I J K L M N O Q R S T U W Y Z a1 b1 c1 d1 f1 g1 h1 i1 l1 n1 o1 s κ => buildSliceC P 23 5 [(0, (.i .i64 0)), (1, (.i .i64 6)), (2, (.i .i64 12)), (3, (.i .i64 15)), (4, (.i .i64 16))] s (fun v0 s => κ (X52.mk m a b v0 d f g h i l n o p r t u w y z A B C D E F G H I J K L M v0 O Q R S T U W Y Z a1 b1 c1 d1 f1 g1 h1 i1 l1 n1 o1) s)) x s κ
theorem r89x20ok : RgOk P false o89x20 T52 r89x20 := fun _ _ x _ _ => by cases x; kernel_rfl
def o89x21 : Array Oper := regO (pth [1, 0, 1, 0, 1, 1, 1, 1, 1, 1, 1, 1, 1, 1, 1, 1, 1, 1, 1, 1, 1, 1, 0, 0] c89v)
def r89x21 : RG X52 := fun call yl x s κ => X52.rec (motive := fun _ => MO X52) (fun m a b c d f g h i l n o p r t u w y z A B C D E F G H I J K L M N O Q R S T U W Y Z a1 b1 c1 d1 f1 g1 h1 i1 l1 n1 o1 s κ => binC d (.i .i64 11) 3 .eql P s (fun v0 s => κ (X52.mk m a b c d f g h i l n o p r t u w y z A B C D E F G H I J K L M N v0 v0 R S T U W Y Z a1 b1 c1 d1 f1 g1 h1 i1 l1 n1 o1) s)) x s κ
theorem r89x21ok : RgOk P false o89x21 T52 r89x21 := fun _ _ x _ _ => by cases x; kernel_rfl
def o89x22 : Array Oper := regO (pth [1, 0, 1, 0, 1, 1, 1, 1, 1, 1, 1, 1, 1, 1, 1, 1, 1, 1, 1, 1, 1, 1, 0, 1, 1, 0] c89v)
def r89x22 : RG X52 := fun call yl x s κ => X52.rec (motive := fun _ => MO X52) (fun m a b c d f g h i l n o p r t u w y z A B C D E F G H I J K L M N O Q R S T U W Y Z a1 b1 c1 d1 f1 g1 h1 i1 l1 n1 o1 s κ => binC d (.i .i64 12) 3 .eql P s (fun v0 s => κ (X52.mk m a b c d f g h i l n o p r t u w y z A B C D E F G H I J K L M N v0 Q v0 S T U W Y Z a1 b1 c1 d1 f1 g1 h1 i1 l1 n1 o1) s)) x s κ
theorem r89x22ok : RgOk P false o89x22 T52 r89x22 := fun _ _ x _ _ => by cases x; kernel_rfl
def o89x23 : Array Oper := regO (pth [1, 0, 1, 0, 1, 1, 1, 1, 1, 1, 1, 1, 1, 1, 1, 1, 1, 1, 1, 1, 1, 1, 0, 1, 1, 1, 1] c89v)
def r89x23 : RG X52 := fun call yl x s κ => X52.rec (motive := fun _ => MO X52) (fun m a b c d f g h i l n o p r t u w y z A B C D E F G H I J K L M N O Q R S T U W Y Z a1 b1 c1 d1 f1 g1 h1 i1 l1 n1 o1 s κ => binC d (.i .i64 14) 3 .eql P s (fun v0 s => κ (X52.mk m a b c d f g h i l n o p r t u w y z A B C D E F G H I J K L M N v0 Q R v0 T U W Y Z a1 b1 c1 d1 f1 g1 h1 i1 l1 n1 o1) s)) x s κ
theorem r89x23ok : RgOk P false o89x23 T52 r89x23 := fun _ _ x _ _ => by cases x; kernel_rfl
def o89x24 : Array Oper := regO (pth [1, 0, 1, 0, 1, 1, 1, 1, 1, 1, 1, 1, 1, 1, 1, 1, 1, 1, 1, 1, 1, 1, 1, 0, 0] c89v)
def r89x24 : RG X52 := fun call yl x s κ => X52.rec (motive := fun _ => MO X52) (fun m a b c d f g h i l n o p r t u w y z A B C D E F G H I J K L M N O Q R S T U W Y Z a1 b1 c1 d1 f1 g1 h1 i1 l1 n1 o1 s κ => buildSliceC P 23 4 [(0, (.i .i64 0)), (1, (.i .i64 12)), (2, (.i .i64 15)), (3, (.i .i64 16))] s (fun v0 s => κ (X52.mk m a b v0 d f g h i l n o p r t u w y z A B C D E F G H I J K L M N O Q R S v0 U W Y Z a1 b1 c1 d1 f1 g1 h1 i1 l1 n1 o1) s)) x s κ
theorem r89x24ok : RgOk P false o89x24 T52 r89x24 := fun _ _ x _ _ => by cases x; kernel_rfl
def o89x25 : Array Oper := regO (pth [1, 0, 1, 0, 1, 1, 1, 1, 1, 1, 1, 1, 1, 1, 1, 1, 1, 1, 1, 1, 1, 1, 1, 1, 0] c89v)
def r89x25 : RG X52 := fun call yl x s κ => X52.rec (motive := fun _ => MO X52) (fun m a b c d f g h i l n o p r t u w y z A B C D E F G H I J K L M N O Q R S T U W Y Z a1 b1 c1 d1 f1 g1 h1 i1 l1 n1 o1 s κ => binC d (.i .i64 13) 3 .eql P s (fun v0 s => κ (X52.mk m a b c d f g h i l n o p r t u w y z A B C D E F G H I J K L M N O Q R S T v0 v0 Y Z a1 b1 c1 d1 f1 g1 h1 i1 l1 n1 o1) s)) x s κ
theorem r89x25ok : RgOk P false o89x25 T52 r89x25 := fun _ _ x _ _ => by cases x; kernel_rfl
def o89x26 : Array Oper := regO (pth [1, 0, 1, 0, 1, 1, 1, 1, 1, 1, 1, 1, 1, 1, 1, 1, 1, 1, 1, 1, 1, 1, 1, 1, 1, 0, 0] c89v)
def r89x26 : RG X52 := fun call yl x s κ => X52.rec (motive := fun _ => MO X52) (fun m a b c d f g h i l n o p r t u w y z A B C D E F G H I J K L M N O Q R S T U W Y Z a1 b1 c1 d1 f1 g1 h1 i1 l1 n1 o1 s κ => buildSliceC P 23 2 [(0, (.i .i64 0)), (1, (.i .i64 15))] s (fun v0 s => κ (X52.mk m a b v0 d f g h i l n o p r t u w y z A B C D E F G H I J K L M N O Q R S T U W v0 Z a1 b1 c1 d1 f1 g1 h1 i1 l1 n1 o1) s)) x s κ
theorem r89x26ok : RgOk P false o89x26 T52 r89x26 := fun _ _ x _ _ => by cases x; kernel_rfl
def o89x27 : Array Oper := regO (pth [1, 0, 1, 0, 1, 1, 1, 1, 1, 1, 1, 1, 1, 1, 1, 1, 1, 1, 1, 1, 1, 1, 1, 1, 1, 1, 0] c89v)
def r89x27 : RG X52 := fun call yl x s κ => X52.rec (motive := fun _ => MO X52) (fun m a b c d f g h i l n o p r t u w y z A B C D E F G H I J K L M N O Q R S T U W Y Z a1 b1 c1 d1 f1 g1 h1 i1 l1 n1 o1 s κ => binC d (.i .i64 15) 3 .eql P s (fun v0 s => κ (X52.mk m a b c d f g h i l n o p r t u w y z A B C D E F G H I J K L M N O Q R S T U W Y v0 v0 b1 c1 d1 f1 g1 h1 i1 l1 n1 o1) s)) x s κ
theorem r89x27ok : RgOk P false o89x27 T52 r89x27 := fun _ _ x _ _ => by cases x; kernel_rfl
def o89x28 : Array Oper := regO (pth [1, 0, 1, 0, 1, 1, 1, 1, 1, 1, 1, 1, 1, 1, 1, 1, 1, 1, 1, 1, 1, 1, 1, 1, 1, 1, 1, 0, 0] c89v)
def r89x28 : RG X52 := fun call yl x s κ => X52.rec (motive := fun _ => MO X52) (fun m a b c d f g h i l n o p r t u w y z A B C D E F G H I J K L M N O Q R S T U W Y Z a1 b1 c1 d1 f1 g1 h1 i1 l1 n1 o1 s κ => buildSliceC P 23 4 [(0, (.i .i64 4)), (1, (.i .i64 5)), (2, (.i .i64 13)), (3, (.i .i64 14))] s (fun v0 s => κ (X52.mk m a b v0 d f g h i l n o p r t u w y z A B C D E F G H I J K L M N O Q R S T U W Y Z a1 v0 c1 d1 f1 g1 h1 i1 l1 n1 o1) s)) x s κ
theorem r89x28ok : RgOk P false o89x28 T52 r89x28 := fun _ _ x _ _ => by cases x; kernel_rfl
def o89x29 : Array Oper := regO (pth [1, 0, 1, 0, 1, 1, 1, 1, 1, 1, 1, 1, 1, 1, 1, 1, 1, 1, 1, 1, 1, 1, 1, 1, 1, 1, 1, 1, 0] c89v)
def r89x29 : RG X52 := fun call yl x s κ => X52.rec (motive := fun _ => MO X52) (fun m a b c d f g h i l n o p r t u w y z A B C D E F G H I J K L M N O Q R S T U W Y Z a1 b1 c1 d1 f1 g1 h1 i1 l1 n1 o1 s κ => binC d (.i .i64 16) 3 .eql P s (fun v0 s => κ (X52.mk m a b c d f g h i l n o p r t u w y z A B C D E F G H I J K L M N O Q R S T U W Y Z a1 b1 v0 v0 f1 g1 h1 i1 l1 n1 o1) s)) x s κ
theorem r89x29ok : RgOk P false o89x29 T52 r89x29 := fun _ _ x _ _ => by cases x; kernel_rfl
def o89x30 : Array Oper := regO (pth [1, 0, 1, 0, 1, 1, 1, 1, 1, 1, 1, 1, 1, 1, 1, 1, 1, 1, 1, 1, 1, 1, 1, 1, 1, 1, 1, 1, 1, 0, 0] c89v)
def r89x30 : RG X52 := fun call yl x s κ => X52.rec (motive := fun _ => MO X52) (fun m a b c d f g h i l n o p r t u w y z A B C D E F G H I J K L M N O Q R S T U W Y Z a1 b1 c1 d1 f1 g1 h1 i1 l1 n1 o1 s κ => buildSliceC P 23 6 [(0, (.i .i64 4)), (1, (.i .i64 5)), (2, (.i .i64 13)), (3, (.i .i64 14)), (4, (.i .i64 15)), (5, (.i .i64 16))] s (fun v0 s => κ (X52.mk m a b v0 d f g h i l n o p r t u w y z A B C D E F G H I J K L M N O Q R S T U W Y Z a1 b1 c1 d1 v0 g1 h1 i1 l1 n1 o1) s)) x s κ
theorem r89x30ok : RgOk P false o89x30 T52 r89x30 := fun _ _ x _ _ => by cases x; kernel_rfl
def o89x31 : Array Oper := regO (pth [1, 0, 1, 0, 1, 1, 1, 1, 1, 1, 1, 1, 1, 1, 1, 1, 1, 1, 1, 1, 1, 1, 1, 1, 1, 1, 1, 1, 1, 1, 0] c89v)
def r89x31 : RG X52 := fun call yl x s κ => X52.rec (motive := fun _ => MO X52) (fun m a b c d f g h i l n o p r t u w y z A B C D E F G H I J K L M N O Q R S T U W Y Z a1 b1 c1 d1 f1 g1 h1 i1 l1 n1 o1 s κ => binC d (.i .i64 17) 3 .eql P s (fun v0 s => κ (X52.mk m a b c d f g h i l n o p r t u w y z A B C D E F G H I J K L M N O Q R S T U W Y Z a1 b1 c1 d1 f1 v0 v0 i1 l1 n1 o1) s)) x s κ
theorem r89x31ok : RgOk P false o89x31 T52 r89x31 := fun _ _ x _ _ => by cases x; kernel_rfl
def o89x32 : Array Oper := regO (pth [1, 0, 1, 0, 1, 1, 1, 1, 1, 1, 1, 1, 1, 1, 1, 1, 1, 1, 1, 1, 1, 1, 1, 1, 1, 1, 1, 1, 1, 1, 1, 0, 0] c89v)
def r89x32 : RG X52 := fun call yl x s κ => X52.rec (motive := fun _ => MO X52) (fun m a b c d f g h i l n o p r t u w y z A B C D E F G H I J K L M N O Q R S T U W Y Z a1 b1 c1 d1 f1 g1 h1 i1 l1 n1 o1 s κ => buildSliceC P 23 4 [(0, (.i .i64 2)), (1, (.i .i64 3)), (2, (.i .i64 15)), (3, (.i .i64 16))] s (fun v0 s => κ (X52.mk m a b v0 d f g h i l n o p r t u w y z A B C D E F G H I J K L M N O Q R S T U W Y Z a1 b1 c1 d1 f1 g1 h1 v0 l1 n1 o1) s)) x s κ
theorem r89x32ok : RgOk P false o89x32 T52 r89x32 := fun _ _ x _ _ => by cases x; kernel_rfl
def o89x33 : Array Oper := regO (pth [1, 0, 1, 0, 1, 1, 1, 1, 1, 1, 1, 1, 1, 1, 1, 1, 1, 1, 1, 1, 1, 1, 1, 1, 1, 1, 1, 1, 1, 1, 1, 1, 0] c89v)
def r89x33 : RG X52 := fun call yl x s κ => X52.rec (motive := fun _ => MO X52) (fun m a b c d f g h i l n o p r t u w y z A B C D E F G H I J K L M N O Q R S T U W Y Z a1 b1 c1 d1 f1 g1 h1 i1 l1 n1 o1 s κ => binC d (.i .i64 18) 3 .eql P s (fun v0 s => κ (X52.mk m a b c d f g h i l n o p r t u w y z A B C D E F G H I J K L M N O Q R S T U W Y Z a1 b1 c1 d1 f1 g1 h1 i1 v0 v0 o1) s)) x s κ
theorem r89x33ok : RgOk P false o89x33 T52 r89x33 := fun _ _ x _ _ => by cases x; kernel_rfl
def o89x34 : Array Oper := regO (pth [1, 0, 1, 0, 1, 1, 1, 1, 1, 1, 1, 1, 1, 1, 1, 1, 1, 1, 1, 1, 1, 1, 1, 1, 1, 1, 1, 1, 1, 1, 1, 1, 1, 0, 0] c89v)
def r89x34 : RG X52 := fun call yl x s κ => X52.rec (motive := fun _ => MO X52) (fun m a b c d f g h i l n o p r t u w y z A B C D E F G H I J K L M N O Q R S T U W Y Z a1 b1 c1 d1 f1 g1 h1 i1 l1 n1 o1 s κ => buildSliceC P 23 2 [(0, (.i .i64 0)), (1, (.i .i64 16))] s (fun v0 s => κ (X52.mk m a b v0 d f g h i l n o p r t u w y z A B C D E F G H I J K L M N O Q R S T U W Y Z a1 b1 c1 d1 f1 g1 h1 i1 l1 n1 v0) s)) x s κ
theorem r89x34ok : RgOk P false o89x34 T52 r89x34 := fun _ _ x _ _ => by cases x; kernel_rfl
def o89x35 : Array Oper := regO (pth [1, 1, 0] c89v)
def r89x35 : RG X52 := fun call yl x s κ => X52.rec (motive := fun _ => MO X52) (fun m a b c d f g h i l n o p r t u w y z A B C D E F G H I J K L M N O Q R S T U W Y Z a1 b1 c1 d1 f1 g1 h1 i1 l1 n1 o1 s κ => κ (X52.mk m a b (.o (.sl none 0 0)) d f g h i l n o p r t u w y z A B C D E F G H I J K L M N O Q R S T U W Y Z a1 b1 c1 d1 f1 g1 h1 i1 l1 n1 o1) s) x s κ
theorem r89x35ok : RgOk P false o89x35 T52 r89x35 := fun _ _ x _ _ => by cases x; kernel_rfl
def S89 : SF X52 := (seqS (regS P t0.fq r89x0) (seqS (seqS (regS P t0.fq r89x1) (blkS 0 (seqS (regS P t0.fq r89x2) (condS (fun x => X52.rec (motive := fun _ => FV) (fun _ _ _ _ _ z _ _ _ _ _ _ _ _ _ _ _ _ _ _ _ _ _ _ _ _ _ _ _ _ _ _ _ _ _ _ _ _ _ _ _ _ _ _ _ _ _ _ _ _ _ _ _ => z) x) (seqS (regS P t0.fq r89x3) retS) (seqS (seqS (regS P t0.fq r89x4) (condS (fun x => X52.rec (motive := fun _ => FV) (fun _ _ _ _ _ _ _ _ z _ _ _ _ _ _ _ _ _ _ _ _ _ _ _ _ _ _ _ _ _ _ _ _ _ _ _ _ _ _ _ _ _ _ _ _ _ _ _ _ _ _ _ _ => z) x) skipS (regS P t0.fq r89x5))) (condS (fun x => X52.rec (motive := fun _ => FV) (fun _ _ _ _ _ _ _ _ z _ _ _ _ _ _ _ _ _ _ _ _ _ _ _ _ _ _ _ _ _ _ _ _ _ _ _ _ _ _ _ _ _ _ _ _ _ _ _ _ _ _ _ _ => z) x) (seqS (regS P t0.fq r89x6) retS) (seqS (regS P t0.fq r89x7) (condS (fun x => X52.rec (motive := fun _ => FV) (fun _ _ _ _ _ _ _ _ _ _ _ _ z _ _ _ _ _ _ _ _ _ _ _ _ _ _ _ _ _ _ _ _ _ _ _ _ _ _ _ _ _ _ _ _ _ _ _ _ _ _ _ _ => z) x) (seqS (regS P t0.fq r89x8) retS) (seqS (regS P t0.fq r89x9) (condS (fun x => X52.rec (motive := fun _ => FV) (fun _ _ _ _ _ _ _ _ _ _ _ _ _ _ _ z _ _ _ _ _ _ _ _ _ _ _ _ _ _ _ _ _ _ _ _ _ _ _ _ _ _ _ _ _ _ _ _ _ _ _ _ _ => z) x) (seqS (regS P t0.fq r89x10) retS) (seqS (regS P t0.fq r89x11) (condS (fun x => X52.rec (motive := fun _ => FV) (fun _ _ _ _ _ _ _ _ _ _ _ _ _ _ _ _ _ _ z _ _ _ _ _ _ _ _ _ _ _ _ _ _ _ _ _ _ _ _ _ _ _ _ _ _ _ _ _ _ _ _ _ _ => z) x) (seqS (regS P t0.fq r89x12) retS) (seqS (regS P t0.fq r89x13) (condS (fun x => X52.rec (motive := fun _ => FV) (fun _ _ _ _ _ _ _ _ _ _ _ _ _ _ _ _ _ _ _ _ _ z _ _ _ _ _ _ _ _ _ _ _ _ _ _ _ _ _ _ _ _ _ _ _ _ _ _ _ _ _ _ _ => z) x) (seqS (regS P t0.fq r89x14) retS) (seqS (regS P t0.fq r89x15) (condS (fun x => X52.rec (motive := fun _ => FV) (fun _ _ _ _ _ _ _ _ _ _ _ _ _ _ _ _ _ _ _ _ _ _ _ _ z _ _ _ _ _ _ _ _ _ _ _ _ _ _ _ _ _ _ _ _ _ _ _ _ _ _ _ _ => z) x) (seqS (regS P t0.fq r89x16) retS) (seqS (regS P t0.fq r89x17) (condS (fun x => X52.rec (motive := fun _ => FV) (fun _ _ _ _ _ _ _ _ _ _ _ _ _ _ _ _ _ _ _ _ _ _ _ _ _ _ _ z _ _ _ _ _ _ _ _ _ _ _ _ _ _ _ _ _ _ _ _ _ _ _ _ _ => z) x) (seqS (regS P t0.fq r89x18) retS) (seqS (regS P t0.fq r89x19) (condS (fun x => X52.rec (motive := fun _ => FV) (fun _ _ _ _ _ _ _ _ _ _ _ _ _ _ _ _ _ _ _ _ _ _ _ _ _ _ _ _ _ _ z _ _ _ _ _ _ _ _ _ _ _ _ _ _ _ _ _ _ _ _ _ _ => z) x) (seqS (regS P t0.fq r89x20) retS) (seqS (seqS (regS P t0.fq r89x21) (condS (fun x => X52.rec (motive := fun _ => FV) (fun _ _ _ _ _ _ _ _ _ _ _ _ _ _ _ _ _ _ _ _ _ _ _ _ _ _ _ _ _ _ _ _ _ z _ _ _ _ _ _ _ _ _ _ _ _ _ _ _ _ _ _ _ => z) x) skipS (seqS (regS P t0.fq r89x22) (condS (fun x => X52.rec (motive := fun _ => FV) (fun _ _ _ _ _ _ _ _ _ _ _ _ _ _ _ _ _ _ _ _ _ _ _ _ _ _ _ _ _ _ _ _ _ z _ _ _ _ _ _ _ _ _ _ _ _ _ _ _ _ _ _ _ => z) x) skipS (regS P t0.fq r89x23))))) (condS (fun x => X52.rec (motive := fun _ => FV) (fun _ _ _ _ _ _ _ _ _ _ _ _ _ _ _ _ _ _ _ _ _ _ _ _ _ _ _ _ _ _ _ _ _ z _ _ _ _ _ _ _ _ _ _ _ _ _ _ _ _ _ _ _ => z) x) (seqS (regS P t0.fq r89x24) retS) (seqS (regS P t0.fq r89x25) (condS (fun x => X52.rec (motive := fun _ => FV) (fun _ _ _ _ _ _ _ _ _ _ _ _ _ _ _ _ _ _ _ _ _ _ _ _ _ _ _ _ _ _ _ _ _ _ _ _ _ _ z _ _ _ _ _ _ _ _ _ _ _ _ _ _ => z) x) (seqS (regS P t0.fq r89x26) retS) (seqS (regS P t0.fq r89x27) (condS (fun x => X52.rec (motive := fun _ => FV) (fun _ _ _ _ _ _ _ _ _ _ _ _ _ _ _ _ _ _ _ _ _ _ _ _ _ _ _ _ _ _ _ _ _ _ _ _ _ _ _ _ _ z _ _ _ _ _ _ _ _ _ _ _ => z) x) (seqS (regS P t0.fq r89x28) retS) (seqS (regS P t0.fq r89x29) (condS (fun x => X52.rec (motive := fun _ => FV) (fun _ _ _ _ _ _ _ _ _ _ _ _ _ _ _ _ _ _ _ _ _ _ _ _ _ _ _ _ _ _ _ _ _ _ _ _ _ _ _ _ _ _ _ _ z _ _ _ _ _ _ _ _ => z) x) (seqS (regS P t0.fq r89x30) retS) (seqS (regS P t0.fq r89x31) (condS (fun x => X52.rec (motive := fun _ => FV) (fun _ _ _ _ _ _ _ _ _ _ _ _ _ _ _ _ _ _ _ _ _ _ _ _ _ _ _ _ _ _ _ _ _ _ _ _ _ _ _ _ _ _ _ _ _ _ _ z _ _ _ _ _ => z) x) (seqS (regS P t0.fq r89x32) retS) (seqS (regS P t0.fq r89x33) (condS (fun x => X52.rec (motive := fun _ => FV) (fun _ _ _ _ _ _ _ _ _ _ _ _ _ _ _ _ _ _ _ _ _ _ _ _ _ _ _ _ _ _ _ _ _ _ _ _ _ _ _ _ _ _ _ _ _ _ _ _ _ _ z _ _ => z) x) (seqS (regS P t0.fq r89x34) retS) skipS)))))))))))))))))))))))))))))))) (seqS (regS P t0.fq r89x35) retS)))
theorem S89ok : Sh P t0.fq T52 c89v S89 := by
  have e : c89v = (.seq (.region 0 o89x0 false) (.seq (.seq (.region 1 o89x1 false) (.block 0 (.seq (.region 2 o89x2 false) (.cond (.tmp 4) (.seq (.region 3 o89x3 false) .ret) (.seq (.seq (.region 4 o89x4 false) (.cond (.tmp 7) .skip (.region 5 o89x5 false))) (.cond (.tmp 7) (.seq (.region 6 o89x6 false) .ret) (.seq (.region 7 o89x7 false) (.cond (.tmp 11) (.seq (.region 8 o89x8 false) .ret) (.seq (.region 9 o89x9 false) (.cond (.tmp 14) (.seq (.region 10 o89x10 false) .ret) (.seq (.region 11 o89x11 false) (.cond (.tmp 17) (.seq (.region 12 o89x12 false) .ret) (.seq (.region 13 o89x13 false) (.cond (.tmp 20) (.seq (.region 14 o89x14 false) .ret) (.seq (.region 15 o89x15 false) (.cond (.tmp 23) (.seq (.region 16 o89x16 false) .ret) (.seq (.region 17 o89x17 false) (.cond (.tmp 26) (.seq (.region 18 o89x18 false) .ret) (.seq (.region 19 o89x19 false) (.cond (.tmp 29) (.seq (.region 20 o89x20 false) .ret) (.seq (.seq (.region 21 o89x21 false) (.cond (.tmp 32) .skip (.seq (.region 22 o89x22 false) (.cond (.tmp 32) .skip (.region 23 o89x23 false))))) (.cond (.tmp 32) (.seq (.region 24 o89x24 false) .ret) (.seq (.region 25 o89x25 false) (.cond (.tmp 37) (.seq (.region 26 o89x26 false) .ret) (.seq (.region 27 o89x27 false) (.cond (.tmp 40) (.seq (.region 28 o89x28 false) .ret) (.seq (.region 29 o89x29 false) (.cond (.tmp 43) (.seq (.region 30 o89x30 false) .ret) (.seq (.region 31 o89x31 false) (.cond (.tmp 46) (.seq (.region 32 o89x32 false) .ret) (.seq (.region 33 o89x33 false) (.cond (.tmp 49) (.seq (.region 34 o89x34 false) .ret) .skip)))))))))))))))))))))))))))))))) (.seq (.region 35 o89x35 false) .ret))) := by kernel_rfl
  rw [e]
  exact (sh_seq (sh_reg r89x0ok) (sh_seq (sh_seq (sh_reg r89x1ok) (sh_blk 0 (sh_seq (sh_reg r89x2ok) (sh_cond (fun x => by cases x; rfl) (sh_seq (sh_reg r89x3ok) sh_ret) (sh_seq (sh_seq (sh_reg r89x4ok) (sh_cond (fun x => by cases x; rfl) sh_skip (sh_reg r89x5ok))) (sh_cond (fun x => by cases x; rfl) (sh_seq (sh_reg r89x6ok) sh_ret) (sh_seq (sh_reg r89x7ok) (sh_cond (fun x => by cases x; rfl) (sh_seq (sh_reg r89x8ok) sh_ret) (sh_seq (sh_reg r89x9ok) (sh_cond (fun x => by cases x; rfl) (sh_seq (sh_reg r89x10ok) sh_ret) (sh_seq (sh_reg r89x11ok) (sh_cond (fun x => by cases x; rfl) (sh_seq (sh_reg r89x12ok) sh_ret) (sh_seq (sh_reg r89x13ok) (sh_cond (fun x => by cases x; rfl) (sh_seq (sh_reg r89x14ok) sh_ret) (sh_seq (sh_reg r89x15ok) (sh_cond (fun x => by cases x; rfl) (sh_seq (sh_reg r89x16ok) sh_ret) (sh_seq (sh_reg r89x17ok) (sh_cond (fun x => by cases x; rfl) (sh_seq (sh_reg r89x18ok) sh_ret) (sh_seq (sh_reg r89x19ok) (sh_cond (fun x => by cases x; rfl) (sh_seq (sh_reg r89x20ok) sh_ret) (sh_seq (sh_seq (sh_reg r89x21ok) (sh_cond (fun x => by cases x; rfl) sh_skip (sh_seq (sh_reg r89x22ok) (sh_cond (fun x => by cases x; rfl) sh_skip (sh_reg r89x23ok))))) (sh_cond (fun x => by cases x; rfl) (sh_seq (sh_reg r89x24ok) sh_ret) (sh_seq (sh_reg r89x25ok) (sh_cond (fun x => by cases x; rfl) (sh_seq (sh_reg r89x26ok) sh_ret) (sh_seq (sh_reg r89x27ok) (sh_cond (fun x => by cases x; rfl) (sh_seq (sh_reg r89x28ok) sh_ret) (sh_seq (sh_reg r89x29ok) (sh_cond (fun x => by cases x; rfl) (sh_seq (sh_reg r89x30ok) sh_ret) (sh_seq (sh_reg r89x31ok) (sh_cond (fun x => by cases x; rfl) (sh_seq (sh_reg r89x32ok) sh_ret) (sh_seq (sh_reg r89x33ok) (sh_cond (fun x => by cases x; rfl) (sh_seq (sh_reg r89x34ok) sh_ret) sh_skip)))))))))))))))))))))))))))))))) (sh_seq (sh_reg r89x35ok) sh_ret)))
def A89 : List FV → Option X52 := fun l => match l with
  | [a] => some (X52.mk [] a .e .e .e .e .e .e .e .e .e .e .e .e .e .e .e .e .e .e .e .e .e .e .e .e .e .e .e .e .e .e .e .e .e .e .e .e .e .e .e .e .e .e .e .e .e .e .e .e .e .e .e)
  | _ => none
def L89 : LQ := shal P T52 S89 [.tmp 2] 4000 A89
def E89 : LA := evCall P t0.fa 4000 89
theorem G89 : Good P 89 L89 E89 := good_shal all0 (by kernel_rfl) (show FT P 89 = some (c89v, 52, [.tmp 2]) by kernel_rfl) S89ok (fun l x h => by
    unfold A89 at h
    split at h
    · cases h; exact ⟨by kernel_rfl, by kernel_rfl⟩
    · cases h) 4000
inductive X21 where
  | mk (m : List Nat) (a b c d f g h i l n o p r t u w y z A B C : FV)
def T21 (x : X21) : FF := X21.rec (motive := fun _ => FF) (fun m a b c d f g h i l n o p r t u w y z A B C => ⟨(.n a (.n b (.n g .e .e .e .e) (.n n .e .e .e .e) (.n t .e .e .e .e) (.n z .e .e .e .e)) (.n c (.n h .e .e .e .e) (.n o .e .e .e .e) (.n u .e .e .e .e) (.n A .e .e .e .e)) (.n d (.n i .e .e .e .e) (.n p .e .e .e .e) (.n w .e .e .e .e) (.n B .e .e .e .e)) (.n f (.n l .e .e .e .e) (.n r .e .e .e .e) (.n y .e .e .e .e) (.n C .e .e .e .e))), 21, m⟩) x
def c90v : Code := bodyOf P 90
def o90x0 : Array Oper := regO (pth [0] c90v)
def r90x0 : RG X21 := fun call yl x s κ => X21.rec (motive := fun _ => MO X21) (fun m a b c d f g h i l n o p r t u w y z A B C s κ => κ (X21.mk m a b (.o (.sl none 0 0)) d f g h i l n o p r t u w y z A B C) s) x s κ
theorem r90x0ok : RgOk P false o90x0 T21 r90x0 := fun _ _ x _ _ => by cases x; kernel_rfl
def o90x1 : Array Oper := regO (pth [1, 0] c90v)
def r90x1 : RG X21 := fun call yl x s κ => X21.rec (motive := fun _ => MO X21) (fun m a b c d f g h i l n o p r t u w y z A B C s κ => cvV a .u64 s (fun v0 s => κ (X21.mk m a b c v0 f g a v0 l n o p r t u w y z A B C) s)) x s κ
theorem r90x1ok : RgOk P false o90x1 T21 r90x1 := fun _ _ x _ _ => by cases x; kernel_rfl
def o90x2 : Array Oper := regO (pth [1, 1, 0] c90v)
def r90x2 : RG X21 := fun call yl x s κ => X21.rec (motive := fun _ => MO X21) (fun m a b c d f g h i l n o p r t u w y z A B C s κ => κ (X21.mk m a b c d (.o (.sl none 0 0)) g h i l n o p r t u w y z A B C) s) x s κ
theorem r90x2ok : RgOk P false o90x2 T21 r90x2 := fun _ _ x _ _ => by cases x; kernel_rfl
def o90x3 : Array Oper := regO (pth [1, 1, 1, 0, 0] c90v)
def r90x3 : RG X21 := fun call yl x s κ => X21.rec (motive := fun _ => MO X21) (fun m a b c d f g h i l n o p r t u w y z A B C s κ => κ (X21.mk m a b c d f (.i .i64 0) h i l n o p r t u w y z A B C) s) x s κ
theorem r90x3ok : RgOk P false o90x3 T21 r90x3 := fun _ _ x _ _ => by cases x; kernel_rfl
def o90x4 : Array Oper := regO (pth [1, 1, 1, 0, 1, 0, 0, 0, 0] c90v)
def r90x4 : RG X21 := fun call yl x s κ => X21.rec (motive := fun _ => MO X21) (fun m a b c d f g h i l n o p r t u w y z A B C s κ => binC g (.i .i64 8) 3 .lss P s (fun v0 s => κ (X21.mk m a b c d f g h i g v0 o p r t u w y z A B C) s)) x s κ
theorem r90x4ok : RgOk P false o90x4 T21 r90x4 := fun _ _ x _ _ => by cases x; kernel_rfl
def o90x5 : Array Oper := regO (pth [1, 1, 1, 0, 1, 0, 0, 1, 0, 0] c90v)
def r90x5 : RG X21 := fun call yl x s κ => X21.rec (motive := fun _ => MO X21) (fun m a b c d f g h i l n o p r t u w y z A B C s κ => binC (.i .i64 8) g 3 .mul P s (fun v0 s => binC d v0 137 .shr P s (fun v1 s => cvV v1 .u8 s (fun v2 s => buildSliceC P 45 1 [(0, v2)] s (fun v3 s => appendC P 45 45 f v3 s (fun v4 s => κ (X21.mk m a b c d v4 g h i l n o p f d g v0 v1 v2 v3 v4 C) s)))))) x s κ
theorem r90x5ok : RgOk P false o90x5 T21 r90x5 := fun _ _ x _ _ => by cases x; kernel_rfl
def o90x6 : Array Oper := regO (pth [1, 1, 1, 0, 1, 0, 0, 1, 1] c90v)
def r90x6 : RG X21 := fun call yl x s κ => X21.rec (motive := fun _ => MO X21) (fun m a b c d f g h i l n o p r t u w y z A B C s κ => binC g (.i .i64 1) 3 .add P s (fun v0 s => κ (X21.mk m a b c d f v0 h i l n g v0 r t u w y z A B C) s)) x s κ
theorem r90x6ok : RgOk P false o90x6 T21 r90x6 := fun _ _ x _ _ => by cases x; kernel_rfl
def o90x7 : Array Oper := regO (pth [1, 1, 1, 1, 0] c90v)
def r90x7 : RG X21 := fun call yl x s κ => X21.rec (motive := fun _ => MO X21) (fun m a b c d f g h i l n o p r t u w y z A B C s κ => κ (X21.mk m a b f d f g h i l n o p r t u w y z A B f) s) x s κ
theorem r90x7ok : RgOk P false o90x7 T21 r90x7 := fun _ _ x _ _ => by cases x; kernel_rfl
def S90 : SF X21 := (seqS (regS P t0.fq r90x0) (seqS (regS P t0.fq r90x1) (seqS (regS P t0.fq r90x2) (seqS (seqS (regS P t0.fq r90x3) (blkS 0 (loopS (seqS (seqS (regS P t0.fq r90x4) (condS (fun x => X21.rec (motive := fun _ => FV) (fun _ _ _ _ _ _ _ _ _ _ z _ _ _ _ _ _ _ _ _ _ _ => z) x) skipS (exitS 0))) (seqS (blkS 1 (regS P t0.fq r90x5)) (regS P t0.fq r90x6)))))) (seqS (regS P t0.fq r90x7) retS)))))
theorem S90ok : Sh P t0.fq T21 c90v S90 := by
  have e : c90v = (.seq (.region 0 o90x0 false) (.seq (.region 1 o90x1 false) (.seq (.region 2 o90x2 false) (.seq (.seq (.region 3 o90x3 false) (.block 0 (.loop (.seq (.seq (.region 4 o90x4 false) (.cond (.tmp 9) .skip (.exit 0))) (.seq (.block 1 (.region 6 o90x5 false)) (.region 5 o90x6 false)))))) (.seq (.region 7 o90x7 false) .ret))))) := by kernel_rfl
  rw [e]
  exact (sh_seq (sh_reg r90x0ok) (sh_seq (sh_reg r90x1ok) (sh_seq (sh_reg r90x2ok) (sh_seq (sh_seq (sh_reg r90x3ok) (sh_blk 0 (sh_loop (sh_seq (sh_seq (sh_reg r90x4ok) (sh_cond (fun x => by cases x; rfl) sh_skip (sh_exit 0))) (sh_seq (sh_blk 1 (sh_reg r90x5ok)) (sh_reg r90x6ok)))))) (sh_seq (sh_reg r90x7ok) sh_ret)))))
def A90 : List FV → Option X21 := fun l => match l with
  | [a] => some (X21.mk [] a .e .e .e .e .e .e .e .e .e .e .e .e .e .e .e .e .e .e .e .e)
  | _ => none
def L90 : LQ := shal P T21 S90 [.tmp 2] 4000 A90
def E90 : LA := evCall P t0.fa 4000 90
theorem G90 : Good P 90 L90 E90 := good_shal all0 (by kernel_rfl) (show FT P 90 = some (c90v, 21, [.tmp 2]) by kernel_rfl) S90ok (fun l x h => by
    unfold A90 at h
    split at h
    · cases h; exact ⟨by kernel_rfl, by kernel_rfl⟩
    · cases h) 4000
inductive X38 where
  | mk (m : List Nat) (a b c d f g h i l n o p r t u w y z A B C D E F G H I J K L M N O Q R S T U : FV)
def T38 (x : X38) : FF := X38.rec (motive := fun _ => FF) (fun m a b c d f g h i l n o p r t u w y z A B C D E F G H I J K L M N O Q R S T U => ⟨(.n a (.n b (.n g (.n D .e .e .e .e) (.n U .e .e .e .e) .e .e) (.n n (.n H .e .e .e .e) .e .e .e) (.n t (.n L .e .e .e .e) .e .e .e) (.n z (.n Q .e .e .e .e) .e .e .e)) (.n c (.n h (.n E .e .e .e .e) .e .e .e) (.n o (.n I .e .e .e .e) .e .e .e) (.n u (.n M .e .e .e .e) .e .e .e) (.n A (.n R .e .e .e .e) .e .e .e)) (.n d (.n i (.n F .e .e .e .e) .e .e .e) (.n p (.n J .e .e .e .e) .e .e .e) (.n w (.n N .e .e .e .e) .e .e .e) (.n B (.n S .e .e .e .e) .e .e .e)) (.n f (.n l (.n G .e .e .e .e) .e .e .e) (.n r (.n K .e .e .e .e) .e .e .e) (.n y (.n O .e .e .e .e) .e .e .e) (.n C (.n T .e .e .e .e) .e .e .e))), 38, m⟩) x
def c92v : Code := bodyOf P 92
def o92x0 : Array Oper := regO (pth [0] c92v)
def r92x0 : RG X38 := fun call yl x s κ => X38.rec (motive := fun _ => MO X38) (fun m a b c d f g h i l n o p r t u w y z A B C D E F G H I J K L M N O Q R S T U s κ => bxV a 34 s (fun v0 s => κ (X38.mk m a v0 (.b false) d f g h i l n o p r t u w y z A B C D E F G H I J K L M N O Q R S T U) s)) x s κ
theorem r92x0ok : RgOk P false o92x0 T38 r92x0 := fun _ _ x _ _ => by cases x; kernel_rfl
def o92x1 : Array Oper := regO (pth [1, 0] c92v)
def r92x1 : RG X38 := fun call yl x s κ => X38.rec (motive := fun _ => MO X38) (fun m a b c d f g h i l n o p r t u w y z A B C D E F G H I J K L M N O Q R S T U s κ => ptrK b 0 s (fun v0 s => ldV v0 false 1 s (fun v1 s => lenC v1 P 31 s (fun v2 s => binC v2 (.i .i64 0) 3 .eql P s (fun v3 s => bnk (fun κ1 => wantC v3 true (ptrK b 1 s (κ1)) (κ1 .e s)) (fun v4 s => bnk (fun κ1 => wantC v3 true (ldV v4 false 1 s (κ1)) (κ1 .e s)) (fun v5 s => bnk (fun κ1 => wantC v3 true (binC v5 (.i .i64 0) 3 .eql P s (κ1)) (κ1 .e s)) (fun v6 s => bnk (fun κ0 => condB v3 (κ0 v6 s) (κ0 (.b false) s)) (fun v7 s => bnk (fun κ1 => wantC v7 true (ptrK b 2 s (κ1)) (κ1 .e s)) (fun v8 s => bnk (fun κ1 => wantC v7 true (ldV v8 false 1 s (κ1)) (κ1 .e s)) (fun v9 s => bnk (fun κ1 => wantC v7 true (binC v9 (.i .i64 0) 3 .eql P s (κ1)) (κ1 .e s)) (fun v10 s => bnk (fun κ0 => condB v7 (κ0 v10 s) (κ0 (.b false) s)) (fun v11 s => bnk (fun κ1 => wantC v11 true (ptrK b 3 s (κ1)) (κ1 .e s)) (fun v12 s => bnk (fun κ1 => wantC v11 true (ldV v12 false 1 s (κ1)) (κ1 .e s)) (fun v13 s => bnk (fun κ1 => wantC v11 true (binC v13 (.o (.s [])) 9 .eql P s (κ1)) (κ1 .e s)) (fun v14 s => bnk (fun κ0 => condB v11 (κ0 v14 s) (κ0 (.b false) s)) (fun v15 s => bnk (fun κ1 => wantC v15 true (ptrK b 4 s (κ1)) (κ1 .e s)) (fun v16 s => bnk (fun κ1 => wantC v15 true (ldV v16 false 1 s (κ1)) (κ1 .e s)) (fun v17 s => bnk (fun κ1 => wantC v15 true (binC v17 (.i .i64 0) 3 .eql P s (κ1)) (κ1 .e s)) (fun v18 s => bnk (fun κ0 => condB v15 (κ0 v18 s) (κ0 (.b false) s)) (fun v19 s => bnk (fun κ1 => wantC v19 true (ptrK b 5 s (κ1)) (κ1 .e s)) (fun v20 s => bnk (fun κ1 => wantC v19 true (ldV v20 false 1 s (κ1)) (κ1 .e s)) (fun v21 s => bnk (fun κ1 => wantC v19 true (binC v21 (.i .i64 0) 3 .eql P s (κ1)) (κ1 .e s)) (fun v22 s => bnk (fun κ0 => condB v19 (κ0 v22 s) (κ0 (.b false) s)) (fun v23 s => bnk (fun κ1 => wantC v23 true (ptrK b 6 s (κ1)) (κ1 .e s)) (fun v24 s => bnk (fun κ1 => wantC v23 true (ldV v24 false 1 s (κ1)) (κ1 .e s)) (fun v25 s => bnk (fun κ1 => wantC v23 true (lenC v25 P 32 s (κ1)) (κ1 .e s)) (fun v26 s => bnk (fun κ1 => wantC v23 true (binC v26 (.i .i64 0) 3 .eql P s (κ1)) (κ1 .e s)) (fun v27 s => bnk (fun κ0 => condB v23 (κ0 v27 s) (κ0 (.b false) s)) (fun v28 s => κ (X38.mk m a b v28 v0 v1 v2 v3 v3 v4 v5 v6 v7 v7 v8 v9 v10 v11 v11 v12 v13 v14 v15 v15 v16 v17 v18 v19 v19 v20 v21 v22 v23 v23 v24 v25 v26 v27 v28) s)))))))))))))))))))))))))))))) x s κ
theorem r92x1ok : RgOk P false o92x1 T38 r92x1 := fun _ _ x _ _ => by cases x; kernel_rfl
def S92 : SF X38 := (seqS (regS P t0.fq r92x0) (seqS (regS P t0.fq r92x1) retS))
theorem S92ok : Sh P t0.fq T38 c92v S92 := by
  have e : c92v = (.seq (.region 0 o92x0 false) (.seq (.region 1 o92x1 false) .ret)) := by kernel_rfl
  rw [e]
  exact (sh_seq (sh_reg r92x0ok) (sh_seq (sh_reg r92x1ok) sh_ret))
def A92 : List FV → Option X38 := fun l => match l with
  | [a] => some (X38.mk [] a .e .e .e .e .e .e .e .e .e .e .e .e .e .e .e .e .e .e .e .e .e .e .e .e .e .e .e .e .e .e .e .e .e .e .e .e .e)
  | _ => none
def L92 : LQ := shal P T38 S92 [.tmp 2] 4000 A92
def E92 : LA := evCall P t0.fa 4000 92
theorem G92 : Good P 92 L92 E92 := good_shal all0 (by kernel_rfl) (show FT P 92 = some (c92v, 38, [.tmp 2]) by kernel_rfl) S92ok (fun l x h => by
    unfold A92 at h
    split at h
    · cases h; exact ⟨by kernel_rfl, by kernel_rfl⟩
    · cases h) 4000
inductive X53 where
  | mk (m : List Nat) (a b c d f g h i l n o p r t u w y z A B C D E F G H I J K L M N O Q R S T U W Y Z a1 b1 c1 d1 f1 g1 h1 i1 l1 n1 o1 p1 : FV)
def T53 (x : X53) : FF := X53.rec (motive := fun _ => FF) (fun m a b c d f g h i l n o p r t u w y z A B C D E F G H I J K L M N O Q R S T U W Y Z a1 b1 c1 d1 f1 g1 h1 i1 l1 n1 o1 p1 => ⟨(.n a (.n b (.n g (.n D .e .e .e .e) (.n U .e .e .e .e) .e .e) (.n n (.n H .e .e .e .e) (.n a1 .e .e .e .e) .e .e) (.n t (.n L .e .e .e .e) (.n f1 .e .e .e .e) .e .e) (.n z (.n Q .e .e .e .e) (.n l1 .e .e .e .e) .e .e)) (.n c (.n h (.n E .e .e .e .e) (.n W .e .e .e .e) .e .e) (.n o (.n I .e .e .e .e) (.n b1 .e .e .e .e) .e .e) (.n u (.n M .e .e .e .e) (.n g1 .e .e .e .e) .e .e) (.n A (.n R .e .e .e .e) (.n n1 .e .e .e .e) .e .e)) (.n d (.n i (.n F .e .e .e .e) (.n Y .e .e .e .e) .e .e) (.n p (.n J .e .e .e .e) (.n c1 .e .e .e .e) .e .e) (.n w (.n N .e .e .e .e) (.n h1 .e .e .e .e) .e .e) (.n B (.n S .e .e .e .e) (.n o1 .e .e .e .e) .e .e)) (.n f (.n l (.n G .e .e .e .e) (.n Z .e .e .e .e) .e .e) (.n r (.n K .e .e .e .e) (.n d1 .e .e .e .e) .e .e) (.n y (.n O .e .e .e .e) (.n i1 .e .e .e .e) .e .e) (.n C (.n T .e .e .e .e) (.n p1 .e .e .e .e) .e .e))), 53, m⟩) x
def c99v : Code := bodyOf P 99
def o99x0 : Array Oper := regO (pth [0] c99v)
def r99x0 : RG X53 := fun call yl x s κ => X53.rec (motive := fun _ => MO X53) (fun m a b c d f g h i l n o p r t u w y z A B C D E F G H I J K L M N O Q R S T U W Y Z a1 b1 c1 d1 f1 g1 h1 i1 l1 n1 o1 p1 s κ => κ (X53.mk m a b c d (.i .i64 0) (.i .i64 0) h i l n o p r t u w y z A B C D E F G H I J K L M N O Q R S T U W Y Z a1 b1 c1 d1 f1 g1 h1 i1 l1 n1 o1 p1) s) x s κ
theorem r99x0ok : RgOk P false o99x0 T53 r99x0 := fun _ _ x _ _ => by cases x; kernel_rfl
def o99x1 : Array Oper := regO (pth [1, 0] c99v)
def r99x1 : RG X53 := fun call yl x s κ => X53.rec (motive := fun _ => MO X53) (fun m a b c d f g h i l n o p r t u w y z A B C D E F G H I J K L M N O Q R S T U W Y Z a1 b1 c1 d1 f1 g1 h1 i1 l1 n1 o1 p1 s κ => κ (X53.mk m a b c d f g (.i .i64 511) (.i .i64 15) l n o p r t u w y z A B C D E F G H I J K L M N O Q R S T U W Y Z a1 b1 c1 d1 f1 g1 h1 i1 l1 n1 o1 p1) s) x s κ
theorem r99x1ok : RgOk P false o99x1 T53 r99x1 := fun _ _ x _ _ => by cases x; kernel_rfl
def o99x2 : Array Oper := regO (pth [1, 1, 0] c99v)
def r99x2 : RG X53 := fun call yl x s κ => X53.rec (motive := fun _ => MO X53) (fun m a b c d f g h i l n o p r t u w y z A B C D E F G H I J K L M N O Q R S T U W Y Z a1 b1 c1 d1 f1 g1 h1 i1 l1 n1 o1 p1 s κ => buildC P 173 [(0, (.i .i64 1)), (1, (.i .i64 1099511627776))] s (fun v0 s => buildC P 173 [(0, (.i .i64 1)), (1, (.i .i64 1099511627776))] s (fun v1 s => buildC P 173 [(0, (.i .i64 0)), (1, i)] s (fun v2 s => buildC P 173 [(0, (.i .i64 1)), (1, (.i .i64 64))] s (fun v3 s => buildC P 173 [(0, (.i .i64 0)), (1, h)] s (fun v4 s => buildC P 173 [(0, (.i .i64 0)), (1, h)] s (fun v5 s => buildC P 173 [(0, (.i .i64 0)), (1, (.i .i64 255))] s (fun v6 s => buildC P 173 [(0, (.i .i64 1)), (1, (.i .i64 3))] s (fun v7 s => buildC P 173 [(0, (.i .i64 0)), (1, (.i .i64 1099511627776))] s (fun v8 s => buildC P 173 [(0, (.i .i64 0)), (1, (.i .i64 2251799813685248))] s (fun v9 s => buildC P 173 [(0, (.i .i64 0)), (1, (.i .i64 18))] s (fun v10 s => buildC P 173 [(0, (.i .i64 1)), (1, (.i .i64 4))] s (fun v11 s => buildC P 174 [(0, v0), (1, v1), (2, v2), (3, v3), (4, v4), (5, v5), (6, v6), (7, v7), (8, v8), (11, v9), (12, v10), (13, v11)] s (fun v12 s => allocC P 174 s (fun v13 s => stA v13 v12 34 s (fun _ s => κ (X53.mk m a b c d f g h i v13 v0 v1 i v2 v3 h v4 h v5 v6 v7 v8 v9 v10 v11 v12 H I J K L M N O Q R S T U W Y Z a1 b1 c1 d1 f1 g1 h1 i1 l1 n1 o1 p1) s)))))))))))))))) x s κ
theorem r99x2ok : RgOk P false o99x2 T53 r99x2 := fun _ _ x _ _ => by cases x; kernel_rfl
def o99x3 : Array Oper := regO (pth [1, 1, 1, 0, 0] c99v)
def r99x3 : RG X53 := fun call yl x s κ => X53.rec (motive := fun _ => MO X53) (fun m a b c d f g h i l n o p r t u w y z A B C D E F G H I J K L M N O Q R S T U W Y Z a1 b1 c1 d1 f1 g1 h1 i1 l1 n1 o1 p1 s κ => κ (X53.mk m a b c d f g h i l n o p r t u w y z A B C D E F G a I J K L M N O Q R S T U W Y Z a1 b1 c1 d1 f1 g1 h1 i1 l1 n1 o1 p1) s) x s κ
theorem r99x3ok : RgOk P false o99x3 T53 r99x3 := fun _ _ x _ _ => by cases x; kernel_rfl
def o99x4 : Array Oper := regO (pth [1, 1, 1, 0, 1, 0, 0] c99v)
def r99x4 : RG X53 := fun call yl x s κ => X53.rec (motive := fun _ => MO X53) (fun m a b c d f g h i l n o p r t u w y z A B C D E F G H I J K L M N O Q R S T U W Y Z a1 b1 c1 d1 f1 g1 h1 i1 l1 n1 o1 p1 s κ => binC H (.i .i64 1) 3 .eql P s (fun v0 s => κ (X53.mk m a b c d f g h i l n o p r t u w y z A B C D E F G H v0 v0 K L M N O Q R S T U W Y Z a1 b1 c1 d1 f1 g1 h1 i1 l1 n1 o1 p1) s)) x s κ
theorem r99x4ok : RgOk P false o99x4 T53 r99x4 := fun _ _ x _ _ => by cases x; kernel_rfl
def o99x5 : Array Oper := regO (pth [1, 1, 1, 0, 1, 0, 1, 0] c99v)
def r99x5 : RG X53 := fun call yl x s κ => X53.rec (motive := fun _ => MO X53) (fun m a b c d f g h i l n o p r t u w y z A B C D E F G H I J K L M N O Q R S T U W Y Z a1 b1 c1 d1 f1 g1 h1 i1 l1 n1 o1 p1 s κ => natK (.i .i64 1) fun j => iaP l 17 j 2 s (fun v0 s => natK (.i .i64 1) fun j => iaP v0 2 j 1 s (fun v1 s => stA v1 (.i .i64 1) 1 s (fun _ s => κ (X53.mk m a b c d f g h i l n o p r t u w y z A B C D E F G H I J v0 v1 M N O Q R S T U W Y Z a1 b1 c1 d1 f1 g1 h1 i1 l1 n1 o1 p1) s)))) x s κ
theorem r99x5ok : RgOk P false o99x5 T53 r99x5 := fun _ _ x _ _ => by cases x; kernel_rfl
def o99x6 : Array Oper := regO (pth [1, 1, 1, 0, 1, 0, 1, 1, 0, 0] c99v)
def r99x6 : RG X53 := fun call yl x s κ => X53.rec (motive := fun _ => MO X53) (fun m a b c d f g h i l n o p r t u w y z A B C D E F G H I J K L M N O Q R S T U W Y Z a1 b1 c1 d1 f1 g1 h1 i1 l1 n1 o1 p1 s κ => binC H (.i .i64 6) 3 .eql P s (fun v0 s => κ (X53.mk m a b c d f g h i l n o p r t u w y z A B C D E F G H I J K L v0 v0 O Q R S T U W Y Z a1 b1 c1 d1 f1 g1 h1 i1 l1 n1 o1 p1) s)) x s κ
theorem r99x6ok : RgOk P false o99x6 T53 r99x6 := fun _ _ x _ _ => by cases x; kernel_rfl
def o99x7 : Array Oper := regO (pth [1, 1, 1, 0, 1, 0, 1, 1, 0, 1, 1] c99v)
def r99x7 : RG X53 := fun call yl x s κ => X53.rec (motive := fun _ => MO X53) (fun m a b c d f g h i l n o p r t u w y z A B C D E F G H I J K L M N O Q R S T U W Y Z a1 b1 c1 d1 f1 g1 h1 i1 l1 n1 o1 p1 s κ => binC H (.i .i64 7) 3 .eql P s (fun v0 s => κ (X53.mk m a b c d f g h i l n o p r t u w y z A B C D E F G H I J K L v0 N v0 Q R S T U W Y Z a1 b1 c1 d1 f1 g1 h1 i1 l1 n1 o1 p1) s)) x s κ
theorem r99x7ok : RgOk P false o99x7 T53 r99x7 := fun _ _ x _ _ => by cases x; kernel_rfl
def o99x8 : Array Oper := regO (pth [1, 1, 1, 0, 1, 0, 1, 1, 1, 0] c99v)
def r99x8 : RG X53 := fun call yl x s κ => X53.rec (motive := fun _ => MO X53) (fun m a b c d f g h i l n o p r t u w y z A B C D E F G H I J K L M N O Q R S T U W Y Z a1 b1 c1 d1 f1 g1 h1 i1 l1 n1 o1 p1 s κ => natK (.i .i64 1) fun j => iaP l 17 j 2 s (fun v0 s => natK (.i .i64 0) fun j => iaP v0 2 j 1 s (fun v1 s => stA v1 (.i .i64 2) 1 s (fun _ s => κ (X53.mk m a b c d f g h i l n o p r t u w y z A B C D E F G H I J K L M N O v0 v1 S T U W Y Z a1 b1 c1 d1 f1 g1 h1 i1 l1 n1 o1 p1) s)))) x s κ
theorem r99x8ok : RgOk P false o99x8 T53 r99x8 := fun _ _ x _ _ => by cases x; kernel_rfl
def o99x9 : Array Oper := regO (pth [1, 1, 1, 0, 1, 0, 1, 1, 1, 1, 0] c99v)
def r99x9 : RG X53 := fun call yl x s κ => X53.rec (motive := fun _ => MO X53) (fun m a b c d f g h i l n o p r t u w y z A B C D E F G H I J K L M N O Q R S T U W Y Z a1 b1 c1 d1 f1 g1 h1 i1 l1 n1 o1 p1 s κ => binC H (.i .i64 8) 3 .eql P s (fun v0 s => κ (X53.mk m a b c d f g h i l n o p r t u w y z A B C D E F G H I J K L M N O Q R v0 v0 U W Y Z a1 b1 c1 d1 f1 g1 h1 i1 l1 n1 o1 p1) s)) x s κ
theorem r99x9ok : RgOk P false o99x9 T53 r99x9 := fun _ _ x _ _ => by cases x; kernel_rfl
def o99x10 : Array Oper := regO (pth [1, 1, 1, 0, 1, 0, 1, 1, 1, 1, 1, 0, 0] c99v)
def r99x10 : RG X53 := fun call yl x s κ => X53.rec (motive := fun _ => MO X53) (fun m a b c d f g h i l n o p r t u w y z A B C D E F G H I J K L M N O Q R S T U W Y Z a1 b1 c1 d1 f1 g1 h1 i1 l1 n1 o1 p1 s κ => natK (.i .i64 5) fun j => iaP l 17 j 2 s (fun v0 s => natK (.i .i64 1) fun j => iaP v0 2 j 1 s (fun v1 s => stA v1 (.i .i64 63) 1 s (fun _ s => κ (X53.mk m a b c d f g h i l n o p r t u w y z A B C D E F G H I J K L M N O Q R S T v0 v1 Y Z a1 b1 c1 d1 f1 g1 h1 i1 l1 n1 o1 p1) s)))) x s κ
theorem r99x10ok : RgOk P false o99x10 T53 r99x10 := fun _ _ x _ _ => by cases x; kernel_rfl
def o99x11 : Array Oper := regO (pth [1, 1, 1, 0, 1, 0, 1, 1, 1, 1, 1, 0, 1] c99v)
def r99x11 : RG X53 := fun call yl x s κ => X53.rec (motive := fun _ => MO X53) (fun m a b c d f g h i l n o p r t u w y z A B C D E F G H I J K L M N O Q R S T U W Y Z a1 b1 c1 d1 f1 g1 h1 i1 l1 n1 o1 p1 s κ => buildC P 173 [(0, (.i .i64 1)), (1, (.i .i64 512))] s (fun v0 s => natK (.i .i64 12) fun j => iaP l 17 j 2 s (fun v1 s => stA v1 v0 2 s (fun _ s => κ (X53.mk m a b c d f g h i l n o p r t u w y z A B C D E F G H I J K L M N O Q R S T U W v0 v1 a1 b1 c1 d1 f1 g1 h1 i1 l1 n1 o1 p1) s)))) x s κ
theorem r99x11ok : RgOk P false o99x11 T53 r99x11 := fun _ _ x _ _ => by cases x; kernel_rfl
def o99x12 : Array Oper := regO (pth [1, 1, 1, 0, 1, 0, 1, 1, 1, 1, 1, 1, 0] c99v)
def r99x12 : RG X53 := fun call yl x s κ => X53.rec (motive := fun _ => MO X53) (fun m a b c d f g h i l n o p r t u w y z A B C D E F G H I J K L M N O Q R S T U W Y Z a1 b1 c1 d1 f1 g1 h1 i1 l1 n1 o1 p1 s κ => binC H (.i .i64 14) 3 .eql P s (fun v0 s => κ (X53.mk m a b c d f g h i l n o p r t u w y z A B C D E F G H I J K L M N O Q R S T U W Y Z v0 v0 c1 d1 f1 g1 h1 i1 l1 n1 o1 p1) s)) x s κ
theorem r99x12ok : RgOk P false o99x12 T53 r99x12 := fun _ _ x _ _ => by cases x; kernel_rfl
def o99x13 : Array Oper := regO (pth [1, 1, 1, 0, 1, 0, 1, 1, 1, 1, 1, 1, 1, 0] c99v)
def r99x13 : RG X53 := fun call yl x s κ => X53.rec (motive := fun _ => MO X53) (fun m a b c d f g h i l n o p r t u w y z A B C D E F G H I J K L M N O Q R S T U W Y Z a1 b1 c1 d1 f1 g1 h1 i1 l1 n1 o1 p1 s κ => natK (.i .i64 12) fun j => iaP l 17 j 2 s (fun v0 s => natK (.i .i64 1) fun j => iaP v0 2 j 1 s (fun v1 s => stA v1 (.i .i64 5) 1 s (fun _ s => κ (X53.mk m a b c d f g h i l n o p r t u w y z A B C D E F G H I J K L M N O Q R S T U W Y Z a1 b1 v0 v1 f1 g1 h1 i1 l1 n1 o1 p1) s)))) x s κ
theorem r99x13ok : RgOk P false o99x13 T53 r99x13 := fun _ _ x _ _ => by cases x; kernel_rfl
def o99x14 : Array Oper := regO (pth [1, 1, 1, 1, 0] c99v)
def r99x14 : RG X53 := fun call yl x s κ => X53.rec (motive := fun _ => MO X53) (fun m a b c d f g h i l n o p r t u w y z A B C D E F G H I J K L M N O Q R S T U W Y Z a1 b1 c1 d1 f1 g1 h1 i1 l1 n1 o1 p1 s κ => (fun qv0 => sandS (fun s κ1 => natK b fun j => iaP l 17 j 2 s (κ1)) s (fun qv1 v2 s => sandS (fun s κ1 => natK (.i .i64 0) fun j => iaP v2 2 j 1 s (κ1)) s (fun qv3 v4 s => sandS (fun s κ1 => ldV v4 false 1 s (κ1)) s (fun qv5 v6 s => (fun qv7 => sandS (fun s κ1 => natK b fun j => iaP l 17 j 2 s (κ1)) s (fun qv8 v9 s => sandS (fun s κ1 => natK (.i .i64 1) fun j => iaP v9 2 j 1 s (κ1)) s (fun qv10 v11 s => sandS (fun s κ1 => ldV v11 false 1 s (κ1)) s (fun qv12 v13 s => (fun qv14 => (fun qv15 => V.iff (dynA [] [qv0, qv1, qv3, qv5, qv7, qv8, qv10, qv12, qv14, qv15] [[], [false], [false, false], [false, false, false], [true, true, true, true], [true, true, true, true, false], [true, true, true, true, false, false], [true, true, true, true, false, false, false], [false, false, false, false, true, true, true, true], [false, false, false, false, false, false, false, false, false]]) (κ (X53.mk m a b c d v6 v13 h i l n o p r t u w y z A B C D E F G H I J K L M N O Q R S T U W Y Z a1 b1 c1 d1 b v2 v4 v6 b v9 v11 v13) s)) (qz s)) (qz s))))) (qz s))))) (qz s)) x s κ
theorem r99x14ok : RgOk P true o99x14 T53 r99x14 := fun _ _ x _ _ => by cases x; kernel_rfl
def S99 : SF X53 := (seqS (regS P t0.fq r99x0) (seqS (regS P t0.fq r99x1) (seqS (regS P t0.fq r99x2) (seqS (seqS (regS P t0.fq r99x3) (blkS 0 (seqS (regS P t0.fq r99x4) (condS (fun x => X53.rec (motive := fun _ => FV) (fun _ _ _ _ _ _ _ _ _ _ _ _ _ _ _ _ _ _ _ _ _ _ _ _ _ _ _ z _ _ _ _ _ _ _ _ _ _ _ _ _ _ _ _ _ _ _ _ _ _ _ _ _ _ => z) x) (regS P t0.fq r99x5) (seqS (seqS (regS P t0.fq r99x6) (condS (fun x => X53.rec (motive := fun _ => FV) (fun _ _ _ _ _ _ _ _ _ _ _ _ _ _ _ _ _ _ _ _ _ _ _ _ _ _ _ _ _ _ _ z _ _ _ _ _ _ _ _ _ _ _ _ _ _ _ _ _ _ _ _ _ _ => z) x) skipS (regS P t0.fq r99x7))) (condS (fun x => X53.rec (motive := fun _ => FV) (fun _ _ _ _ _ _ _ _ _ _ _ _ _ _ _ _ _ _ _ _ _ _ _ _ _ _ _ _ _ _ _ z _ _ _ _ _ _ _ _ _ _ _ _ _ _ _ _ _ _ _ _ _ _ => z) x) (regS P t0.fq r99x8) (seqS (regS P t0.fq r99x9) (condS (fun x => X53.rec (motive := fun _ => FV) (fun _ _ _ _ _ _ _ _ _ _ _ _ _ _ _ _ _ _ _ _ _ _ _ _ _ _ _ _ _ _ _ _ _ _ _ _ z _ _ _ _ _ _ _ _ _ _ _ _ _ _ _ _ _ => z) x) (seqS (regS P t0.fq r99x10) (regS P t0.fq r99x11)) (seqS (regS P t0.fq r99x12) (condS (fun x => X53.rec (motive := fun _ => FV) (fun _ _ _ _ _ _ _ _ _ _ _ _ _ _ _ _ _ _ _ _ _ _ _ _ _ _ _ _ _ _ _ _ _ _ _ _ _ _ _ _ _ _ z _ _ _ _ _ _ _ _ _ _ _ => z) x) (regS P t0.fq r99x13) skipS)))))))))) (seqS (regS P t0.fq r99x14) retS)))))
theorem S99ok : Sh P t0.fq T53 c99v S99 := by
  have e : c99v = (.seq (.region 0 o99x0 false) (.seq (.region 1 o99x1 false) (.seq (.region 2 o99x2 false) (.seq (.seq (.region 3 o99x3 false) (.block 0 (.seq (.region 4 o99x4 false) (.cond (.tmp 26) (.region 5 o99x5 false) (.seq (.seq (.region 6 o99x6 false) (.cond (.tmp 30) .skip (.region 7 o99x7 false))) (.cond (.tmp 30) (.region 8 o99x8 false) (.seq (.region 9 o99x9 false) (.cond (.tmp 35) (.seq (.region 10 o99x10 false) (.region 11 o99x11 false)) (.seq (.region 12 o99x12 false) (.cond (.tmp 41) (.region 13 o99x13 false) .skip)))))))))) (.seq (.region 14 o99x14 true) .ret))))) := by kernel_rfl
  rw [e]
  exact (sh_seq (sh_reg r99x0ok) (sh_seq (sh_reg r99x1ok) (sh_seq (sh_reg r99x2ok) (sh_seq (sh_seq (sh_reg r99x3ok) (sh_blk 0 (sh_seq (sh_reg r99x4ok) (sh_cond (fun x => by cases x; rfl) (sh_reg r99x5ok) (sh_seq (sh_seq (sh_reg r99x6ok) (sh_cond (fun x => by cases x; rfl) sh_skip (sh_reg r99x7ok))) (sh_cond (fun x => by cases x; rfl) (sh_reg r99x8ok) (sh_seq (sh_reg r99x9ok) (sh_cond (fun x => by cases x; rfl) (sh_seq (sh_reg r99x10ok) (sh_reg r99x11ok)) (sh_seq (sh_reg r99x12ok) (sh_cond (fun x => by cases x; rfl) (sh_reg r99x13ok) sh_skip)))))))))) (sh_seq (sh_reg r99x14ok) sh_ret)))))
def A99 : List FV → Option X53 := fun l => match l with
  | [a, b] => some (X53.mk [] a b .e .e .e .e .e .e .e .e .e .e .e .e .e .e .e .e .e .e .e .e .e .e .e .e .e .e .e .e .e .e .e .e .e .e .e .e .e .e .e .e .e .e .e .e .e .e .e .e .e .e .e)
  | _ => none
def L99 : LQ := shal P T53 S99 [.tmp 4, .tmp 5] 4000 A99
def E99 : LA := evCall P t0.fa 4000 99
theorem G99 : Good P 99 L99 E99 := good_shal all0 (by kernel_rfl) (show FT P 99 = some (c99v, 53, [.tmp 4, .tmp 5]) by kernel_rfl) S99ok (fun l x h => by
    unfold A99 at h
    split at h
    · cases h; exact ⟨by kernel_rfl, by kernel_rfl⟩
    · cases h) 4000
inductive X59 where
  | mk (m : List Nat) (a b c d f g h i l n o p r t u w y z A B C D E F G H I J K L M N O Q R S T U W Y Z a1 b1 c1 d1 f1 g1 h1 i1 l1 n1 o1 p1 r1 t1 u1 w1 y1 z1 : FV)
def T59 (x : X59) : FF := X59.rec (motive := fun _ => FF) (fun m a b c d f g h i l n o p r t u w y z A B C D E F G H I J K L M N O Q R S T U W Y Z a1 b1 c1 d1 f1 g1 h1 i1 l1 n1 o1 p1 r1 t1 u1 w1 y1 z1 => ⟨(.n a (.n b (.n g (.n D .e .e .e .e) (.n U .e .e .e .e) (.n r1 .e .e .e .e) .e) (.n n (.n H .e .e .e .e) (.n a1 .e .e .e .e) (.n y1 .e .e .e .e) .e) (.n t (.n L .e .e .e .e) (.n f1 .e .e .e .e) .e .e) (.n z (.n Q .e .e .e .e) (.n l1 .e .e .e .e) .e .e)) (.n c (.n h (.n E .e .e .e .e) (.n W .e .e .e .e) (.n t1 .e .e .e .e) .e) (.n o (.n I .e .e .e .e) (.n b1 .e .e .e .e) (.n z1 .e .e .e .e) .e) (.n u (.n M .e .e .e .e) (.n g1 .e .e .e .e) .e .e) (.n A (.n R .e .e .e .e) (.n n1 .e .e .e .e) .e .e)) (.n d (.n i (.n F .e .e .e .e) (.n Y .e .e .e .e) (.n u1 .e .e .e .e) .e) (.n p (.n J .e .e .e .e) (.n c1 .e .e .e .e) .e .e) (.n w (.n N .e .e .e .e) (.n h1 .e .e .e .e) .e .e) (.n B (.n S .e .e .e .e) (.n o1 .e .e .e .e) .e .e)) (.n f (.n l (.n G .e .e .e .e) (.n Z .e .e .e .e) (.n w1 .e .e .e .e) .e) (.n r (.n K .e .e .e .e) (.n d1 .e .e .e .e) .e .e) (.n y (.n O .e .e .e .e) (.n i1 .e .e .e .e) .e .e) (.n C (.n T .e .e .e .e) (.n p1 .e .e .e .e) .e .e))), 59, m⟩) x
def c102v : Code := bodyOf P 102
def o102x0 : Array Oper := regO (pth [0] c102v)
def r102x0 : RG X59 := fun call yl x s κ => X59.rec (motive := fun _ => MO X59) (fun m a b c d f g h i l n o p r t u w y z A B C D E F G H I J K L M N O Q R S T U W Y Z a1 b1 c1 d1 f1 g1 h1 i1 l1 n1 o1 p1 r1 t1 u1 w1 y1 z1 s κ => bxV a 40 s (fun v0 s => κ (X59.mk m a v0 (.b false) d f g h i l n o p r t u w y z A B C D E F G H I J K L M N O Q R S T U W Y Z a1 b1 c1 d1 f1 g1 h1 i1 l1 n1 o1 p1 r1 t1 u1 w1 y1 z1) s)) x s κ
theorem r102x0ok : RgOk P false o102x0 T59 r102x0 := fun _ _ x _ _ => by cases x; kernel_rfl
def o102x1 : Array Oper := regO (pth [1, 0] c102v)
def r102x1 : RG X59 := fun call yl x s κ => X59.rec (motive := fun _ => MO X59) (fun m a b c d f g h i l n o p r t u w y z A B C D E F G H I J K L M N O Q R S T U W Y Z a1 b1 c1 d1 f1 g1 h1 i1 l1 n1 o1 p1 r1 t1 u1 w1 y1 z1 s κ => ptrK b 0 s (fun v0 s => ldV v0 false 1 s (fun v1 s => binC (.i .i64 8) v1 3 .leq P s (fun v2 s => bnk (fun κ1 => wantC v2 true (ptrK b 0 s (κ1)) (κ1 .e s)) (fun v3 s => bnk (fun κ1 => wantC v2 true (ldV v3 false 1 s (κ1)) (κ1 .e s)) (fun v4 s => bnk (fun κ1 => wantC v2 true (binC v4 (.i .i64 14) 3 .leq P s (κ1)) (κ1 .e s)) (fun v5 s => bnk (fun κ0 => condB v2 (κ0 v5 s) (κ0 (.b false) s)) (fun v6 s => κ (X59.mk m a b c v6 f g v0 v1 v2 v2 v3 v4 v5 v6 u w y z A B C D E F G H I J K L M N O Q R S T U W Y Z a1 b1 c1 d1 f1 g1 h1 i1 l1 n1 o1 p1 r1 t1 u1 w1 y1 z1) s)))))))) x s κ
theorem r102x1ok : RgOk P false o102x1 T59 r102x1 := fun _ _ x _ _ => by cases x; kernel_rfl
def o102x2 : Array Oper := regO (pth [1, 1, 0, 0] c102v)
def r102x2 : RG X59 := fun call yl x s κ => X59.rec (motive := fun _ => MO X59) (fun m a b c d f g h i l n o p r t u w y z A B C D E F G H I J K L M N O Q R S T U W Y Z a1 b1 c1 d1 f1 g1 h1 i1 l1 n1 o1 p1 r1 t1 u1 w1 y1 z1 s κ => ptrK b 29 s (fun v0 s => ldV v0 false 1 s (fun v1 s => lenC v1 P 23 s (fun v2 s => κ (X59.mk m a b c d f g h i l n o p r t v0 v1 v2 (.i .i64 0) A B C D E F G H I J K L M N O Q R S T U W Y Z a1 b1 c1 d1 f1 g1 h1 i1 l1 n1 o1 p1 r1 t1 u1 w1 y1 z1) s)))) x s κ
theorem r102x2ok : RgOk P false o102x2 T59 r102x2 := fun _ _ x _ _ => by cases x; kernel_rfl
def o102x3 : Array Oper := regO (pth [1, 1, 0, 1, 0, 0, 0] c102v)
def r102x3 : RG X59 := fun call yl x s κ => X59.rec (motive := fun _ => MO X59) (fun m a b c d f g h i l n o p r t u w y z A B C D E F G H I J K L M N O Q R S T U W Y Z a1 b1 c1 d1 f1 g1 h1 i1 l1 n1 o1 p1 r1 t1 u1 w1 y1 z1 s κ => binC z y 3 .lss P s (fun v0 s => κ (X59.mk m a b c d f g h i l n o p r t u w y z v0 B C D E F G H I J K L M N O Q R S T U W Y Z a1 b1 c1 d1 f1 g1 h1 i1 l1 n1 o1 p1 r1 t1 u1 w1 y1 z1) s)) x s κ
theorem r102x3ok : RgOk P false o102x3 T59 r102x3 := fun _ _ x _ _ => by cases x; kernel_rfl
def o102x4 : Array Oper := regO (pth [1, 1, 0, 1, 0, 0, 1, 1, 0, 0, 0] c102v)
def r102x4 : RG X59 := fun call yl x s κ => X59.rec (motive := fun _ => MO X59) (fun m a b c d f g h i l n o p r t u w y z A B C D E F G H I J K L M N O Q R S T U W Y Z a1 b1 c1 d1 f1 g1 h1 i1 l1 n1 o1 p1 r1 t1 u1 w1 y1 z1 s κ => natK z fun j => iaS w j 1 s (fun v0 s => ldV v0 false 1 s (fun v1 s => κ (X59.mk m a b c d z v1 h i l n o p r t u w y z A z v0 v1 E F G H I J K L M N O Q R S T U W Y Z a1 b1 c1 d1 f1 g1 h1 i1 l1 n1 o1 p1 r1 t1 u1 w1 y1 z1) s))) x s κ
theorem r102x4ok : RgOk P false o102x4 T59 r102x4 := fun _ _ x _ _ => by cases x; kernel_rfl
def o102x5 : Array Oper := regO (pth [1, 1, 0, 1, 0, 0, 1, 1, 0, 0, 1, 0, 0] c102v)
def r102x5 : RG X59 := fun call yl x s κ => X59.rec (motive := fun _ => MO X59) (fun m a b c d f g h i l n o p r t u w y z A B C D E F G H I J K L M N O Q R S T U W Y Z a1 b1 c1 d1 f1 g1 h1 i1 l1 n1 o1 p1 r1 t1 u1 w1 y1 z1 s κ => binC g (.i .i64 0) 3 .lss P s (fun v0 s => bnk (fun κ1 => wantC v0 false (κ1 g s) (κ1 .e s)) (fun v1 s => bnk (fun κ1 => wantC v0 false (binC v1 (.i .i64 255) 3 .gtr P s (κ1)) (κ1 .e s)) (fun v2 s => bnk (fun κ0 => condB v0 (κ0 (.b true) s) (κ0 v2 s)) (fun v3 s => κ (X59.mk m a b c d f g h i l n o p r t u w y z A B C D v3 g v0 v0 v1 v2 v3 L M N O Q R S T U W Y Z a1 b1 c1 d1 f1 g1 h1 i1 l1 n1 o1 p1 r1 t1 u1 w1 y1 z1) s))))) x s κ
theorem r102x5ok : RgOk P false o102x5 T59 r102x5 := fun _ _ x _ _ => by cases x; kernel_rfl
def o102x6 : Array Oper := regO (pth [1, 1, 0, 1, 0, 0, 1, 1, 0, 0, 1, 0, 1, 0, 0] c102v)
def r102x6 : RG X59 := fun call yl x s κ => X59.rec (motive := fun _ => MO X59) (fun m a b c d f g h i l n o p r t u w y z A B C D E F G H I J K L M N O Q R S T U W Y Z a1 b1 c1 d1 f1 g1 h1 i1 l1 n1 o1 p1 r1 t1 u1 w1 y1 z1 s κ => κ (X59.mk m a b (.b false) d f g h i l n o p r t u w y z A B C D E F G H I J K L M N O Q R S T U W Y Z a1 b1 c1 d1 f1 g1 h1 i1 l1 n1 o1 p1 r1 t1 u1 w1 y1 z1) s) x s κ
theorem r102x6ok : RgOk P false o102x6 T59 r102x6 := fun _ _ x _ _ => by cases x; kernel_rfl
def o102x7 : Array Oper := regO (pth [1, 1, 0, 1, 0, 0, 1, 1, 0, 0, 1, 0, 1, 1, 0] c102v)
def r102x7 : RG X59 := fun call yl x s κ => X59.rec (motive := fun _ => MO X59) (fun m a b c d f g h i l n o p r t u w y z A B C D E F G H I J K L M N O Q R S T U W Y Z a1 b1 c1 d1 f1 g1 h1 i1 l1 n1 o1 p1 r1 t1 u1 w1 y1 z1 s κ => bnk (fun κ1 => wantC d true (κ1 g s) (κ1 .e s)) (fun v0 s => bnk (fun κ1 => wantC d true (binC v0 (.i .i64 16) 3 .geq P s (κ1)) (κ1 .e s)) (fun v1 s => bnk (fun κ1 => wantC d true (κ1 v1 s) (κ1 .e s)) (fun v2 s => bnk (fun κ1 => wantC v2 false (κ1 f s) (κ1 .e s)) (fun v3 s => bnk (fun κ1 => wantC v2 false (binC v3 (.i .i64 0) 3 .gtr P s (κ1)) (κ1 .e s)) (fun v4 s => bnk (fun κ1 => wantC v2 false (κ1 v4 s) (κ1 .e s)) (fun v5 s => bnk (fun κ1 => wantC v5 true (κ1 g s) (κ1 .e s)) (fun v6 s => bnk (fun κ1 => wantC v5 true (ptrK b 29 s (κ1)) (κ1 .e s)) (fun v7 s => bnk (fun κ1 => wantC v5 true (ldV v7 false 1 s (κ1)) (κ1 .e s)) (fun v8 s => bnk (fun κ1 => wantC v5 true (κ1 f s) (κ1 .e s)) (fun v9 s => bnk (fun κ1 => wantC v5 true (binC v9 (.i .i64 1) 3 .sub P s (κ1)) (κ1 .e s)) (fun v10 s => bnk (fun κ1 => wantC v5 true (natK v10 fun j => iaS v8 j 1 s (κ1)) (κ1 .e s)) (fun v11 s => bnk (fun κ1 => wantC v5 true (ldV v11 false 1 s (κ1)) (κ1 .e s)) (fun v12 s => bnk (fun κ1 => wantC v5 true (binC v6 v12 3 .leq P s (κ1)) (κ1 .e s)) (fun v13 s => bnk (fun κ1 => wantC v2 false (bnk (fun κ0 => condB v5 (κ0 v13 s) (κ0 (.b false) s)) (κ1)) (κ1 .e s)) (fun v14 s => bnk (fun κ1 => wantC d true (bnk (fun κ0 => condB v2 (κ0 (.b true) s) (κ0 v14 s)) (κ1)) (κ1 .e s)) (fun v15 s => bnk (fun κ0 => condB d (κ0 v15 s) (κ0 (.b false) s)) (fun v16 s => κ (X59.mk m a b c d f g h i l n o p r t u w y z A B C D E F G H I J K v16 d d v0 v1 v2 v3 v4 v5 v6 v7 v8 v9 v10 v11 v12 v13 v14 v15 v16 l1 n1 o1 p1 r1 t1 u1 w1 y1 z1) s)))))))))))))))))) x s κ
theorem r102x7ok : RgOk P false o102x7 T59 r102x7 := fun _ _ x _ _ => by cases x; kernel_rfl
def o102x8 : Array Oper := regO (pth [1, 1, 0, 1, 0, 0, 1, 1, 0, 0, 1, 0, 1, 1, 1, 0, 0] c102v)
def r102x8 : RG X59 := fun call yl x s κ => X59.rec (motive := fun _ => MO X59) (fun m a b c d f g h i l n o p r t u w y z A B C D E F G H I J K L M N O Q R S T U W Y Z a1 b1 c1 d1 f1 g1 h1 i1 l1 n1 o1 p1 r1 t1 u1 w1 y1 z1 s κ => κ (X59.mk m a b (.b false) d f g h i l n o p r t u w y z A B C D E F G H I J K L M N O Q R S T U W Y Z a1 b1 c1 d1 f1 g1 h1 i1 l1 n1 o1 p1 r1 t1 u1 w1 y1 z1) s) x s κ
theorem r102x8ok : RgOk P false o102x8 T59 r102x8 := fun _ _ x _ _ => by cases x; kernel_rfl
def o102x9 : Array Oper := regO (pth [1, 1, 0, 1, 0, 0, 1, 1, 1] c102v)
def r102x9 : RG X59 := fun call yl x s κ => X59.rec (motive := fun _ => MO X59) (fun m a b c d f g h i l n o p r t u w y z A B C D E F G H I J K L M N O Q R S T U W Y Z a1 b1 c1 d1 f1 g1 h1 i1 l1 n1 o1 p1 r1 t1 u1 w1 y1 z1 s κ => binC z (.i .i64 1) 3 .add P s (fun v0 s => κ (X59.mk m a b c d f g h i l n o p r t u w y v0 A B C D E F G H I J K L M N O Q R S T U W Y Z a1 b1 c1 d1 f1 g1 h1 i1 v0 n1 o1 p1 r1 t1 u1 w1 y1 z1) s)) x s κ
theorem r102x9ok : RgOk P false o102x9 T59 r102x9 := fun _ _ x _ _ => by cases x; kernel_rfl
def o102x10 : Array Oper := regO (pth [1, 1, 1, 0] c102v)
def r102x10 : RG X59 := fun call yl x s κ => X59.rec (motive := fun _ => MO X59) (fun m a b c d f g h i l n o p r t u w y z A B C D E F G H I J K L M N O Q R S T U W Y Z a1 b1 c1 d1 f1 g1 h1 i1 l1 n1 o1 p1 r1 t1 u1 w1 y1 z1 s κ => ptrK b 0 s (fun v0 s => ldV v0 false 1 s (fun v1 s => binC v1 (.i .i64 17) 3 .neq P s (fun v2 s => bnk (fun κ1 => wantC v2 false (ptrK b 29 s (κ1)) (κ1 .e s)) (fun v3 s => bnk (fun κ1 => wantC v2 false (ldV v3 false 1 s (κ1)) (κ1 .e s)) (fun v4 s => bnk (fun κ1 => wantC v2 false (lenC v4 P 23 s (κ1)) (κ1 .e s)) (fun v5 s => bnk (fun κ1 => wantC v2 false (binC v5 (.i .i64 0) 3 .gtr P s (κ1)) (κ1 .e s)) (fun v6 s => bnk (fun κ0 => condB v2 (κ0 (.b true) s) (κ0 v6 s)) (fun v7 s => κ (X59.mk m a b v7 d f g h i l n o p r t u w y z A B C D E F G H I J K L M N O Q R S T U W Y Z a1 b1 c1 d1 f1 g1 h1 i1 l1 v0 v1 v2 v2 v3 v4 v5 v6 v7) s))))))))) x s κ
theorem r102x10ok : RgOk P false o102x10 T59 r102x10 := fun _ _ x _ _ => by cases x; kernel_rfl
def S102 : SF X59 := (seqS (regS P t0.fq r102x0) (seqS (regS P t0.fq r102x1) (seqS (seqS (regS P t0.fq r102x2) (blkS 0 (loopS (seqS (regS P t0.fq r102x3) (seqS (condS (fun x => X59.rec (motive := fun _ => FV) (fun _ _ _ _ _ _ _ _ _ _ _ _ _ _ _ _ _ _ _ z _ _ _ _ _ _ _ _ _ _ _ _ _ _ _ _ _ _ _ _ _ _ _ _ _ _ _ _ _ _ _ _ _ _ _ _ _ _ _ _ => z) x) skipS (exitS 0)) (seqS (blkS 1 (seqS (regS P t0.fq r102x4) (blkS 2 (seqS (regS P t0.fq r102x5) (condS (fun x => X59.rec (motive := fun _ => FV) (fun _ _ _ _ _ _ _ _ _ _ _ _ _ _ _ _ _ _ _ _ _ _ _ z _ _ _ _ _ _ _ _ _ _ _ _ _ _ _ _ _ _ _ _ _ _ _ _ _ _ _ _ _ _ _ _ _ _ _ _ => z) x) (seqS (regS P t0.fq r102x6) retS) (seqS (regS P t0.fq r102x7) (condS (fun x => X59.rec (motive := fun _ => FV) (fun _ _ _ _ _ _ _ _ _ _ _ _ _ _ _ _ _ _ _ _ _ _ _ _ _ _ _ _ _ _ z _ _ _ _ _ _ _ _ _ _ _ _ _ _ _ _ _ _ _ _ _ _ _ _ _ _ _ _ _ => z) x) (seqS (regS P t0.fq r102x8) retS) skipS))))))) (regS P t0.fq r102x9))))))) (seqS (regS P t0.fq r102x10) retS))))
theorem S102ok : Sh P t0.fq T59 c102v S102 := by
  have e : c102v = (.seq (.region 0 o102x0 false) (.seq (.region 1 o102x1 false) (.seq (.seq (.region 2 o102x2 false) (.block 0 (.loop (.seq (.region 3 o102x3 false) (.seq (.cond (.tmp 18) .skip (.exit 0)) (.seq (.block 1 (.seq (.region 4 o102x4 false) (.block 2 (.seq (.region 5 o102x5 false) (.cond (.tmp 22) (.seq (.region 6 o102x6 false) .ret) (.seq (.region 7 o102x7 false) (.cond (.tmp 29) (.seq (.region 8 o102x8 false) .ret) .skip))))))) (.region 9 o102x9 false))))))) (.seq (.region 10 o102x10 false) .ret)))) := by kernel_rfl
  rw [e]
  exact (sh_seq (sh_reg r102x0ok) (sh_seq (sh_reg r102x1ok) (sh_seq (sh_seq (sh_reg r102x2ok) (sh_blk 0 (sh_loop (sh_seq (sh_reg r102x3ok) (sh_seq (sh_cond (fun x => by cases x; rfl) sh_skip (sh_exit 0)) (sh_seq (sh_blk 1 (sh_seq (sh_reg r102x4ok) (sh_blk 2 (sh_seq (sh_reg r102x5ok) (sh_cond (fun x => by cases x; rfl) (sh_seq (sh_reg r102x6ok) sh_ret) (sh_seq (sh_reg r102x7ok) (sh_cond (fun x => by cases x; rfl) (sh_seq (sh_reg r102x8ok) sh_ret) sh_skip))))))) (sh_reg r102x9ok))))))) (sh_seq (sh_reg r102x10ok) sh_ret))))
def A102 : List FV → Option X59 := fun l => match l with
  | [a] => some (X59.mk [] a .e .e .e .e .e .e .e .e .e .e .e .e .e .e .e .e .e .e .e .e .e .e .e .e .e .e .e .e .e .e .e .e .e .e .e .e .e .e .e .e .e .e .e .e .e .e .e .e .e .e .e .e .e .e .e .e .e .e)
  | _ => none
def L102 : LQ := shal P T59 S102 [.tmp 2] 4000 A102
def E102 : LA := evCall P t0.fa 4000 102
theorem G102 : Good P 102 L102 E102 := good_shal all0 (by kernel_rfl) (show FT P 102 = some (c102v, 59, [.tmp 2]) by kernel_rfl) S102ok (fun l x h => by
    unfold A102 at h
    split at h
    · cases h; exact ⟨by kernel_rfl, by kernel_rfl⟩
    · cases h) 4000
def c110v : Code := bodyOf P 110
def o110x0 : Array Oper := regO (pth [0] c110v)
def r110x0 : RG X9 := fun call yl x s κ => X9.rec (motive := fun _ => MO X9) (fun m a b c d f g h i l s κ => κ (X9.mk m a b (.b false) d f g h i l) s) x s κ
theorem r110x0ok : RgOk P false o110x0 T9 r110x0 := fun _ _ x _ _ => by cases x; kernel_rfl
def o110x1 : Array Oper := regO (pth [1, 0] c110v)
def r110x1 : RG X9 := fun call yl x s κ => X9.rec (motive := fun _ => MO X9) (fun m a b c d f g h i l s κ => binC (.i .i64 0) a 3 .leq P s (fun v0 s => bnk (fun κ1 => wantC v0 true (κ1 a s) (κ1 .e s)) (fun v1 s => bnk (fun κ1 => wantC v0 true (binC v1 (.i .i64 16) 3 .lss P s (κ1)) (κ1 .e s)) (fun v2 s => bnk (fun κ0 => condB v0 (κ0 v2 s) (κ0 (.b false) s)) (fun v3 s => κ (X9.mk m a b v3 a v0 v0 v1 v2 v3) s))))) x s κ
theorem r110x1ok : RgOk P false o110x1 T9 r110x1 := fun _ _ x _ _ => by cases x; kernel_rfl
def S110 : SF X9 := (seqS (regS P t0.fq r110x0) (seqS (regS P t0.fq r110x1) retS))
theorem S110ok : Sh P t0.fq T9 c110v S110 := by
  have e : c110v = (.seq (.region 0 o110x0 false) (.seq (.region 1 o110x1 false) .ret)) := by kernel_rfl
  rw [e]
  exact (sh_seq (sh_reg r110x0ok) (sh_seq (sh_reg r110x1ok) sh_ret))
def A110 : List FV → Option X9 := fun l => match l with
  | [a] => some (X9.mk [] a .e .e .e .e .e .e .e .e)
  | _ => none
def L110 : LQ := shal P T9 S110 [.tmp 2] 4000 A110
def E110 : LA := evCall P t0.fa 4000 110
theorem G110 : Good P 110 L110 E110 := good_shal all0 (by kernel_rfl) (show FT P 110 = some (c110v, 9, [.tmp 2]) by kernel_rfl) S110ok (fun l x h => by
    unfold A110 at h
    split at h
    · cases h; exact ⟨by kernel_rfl, by kernel_rfl⟩
    · cases h) 4000
inductive X15 where
  | mk (m : List Nat) (a b c d f g h i l n o p r t u : FV)
def T15 (x : X15) : FF := X15.rec (motive := fun _ => FF) (fun m a b c d f g h i l n o p r t u => ⟨(.n a (.n b (.n g .e .e .e .e) (.n n .e .e .e .e) (.n t .e .e .e .e) .e) (.n c (.n h .e .e .e .e) (.n o .e .e .e .e) (.n u .e .e .e .e) .e) (.n d (.n i .e .e .e .e) (.n p .e .e .e .e) .e .e) (.n f (.n l .e .e .e .e) (.n r .e .e .e .e) .e .e)), 15, m⟩) x
def c117v : Code := bodyOf P 117
def o117x0 : Array Oper := regO (pth [] c117v)
def r117x0 : RG X15 := fun call yl x s κ => X15.rec (motive := fun _ => MO X15) (fun m a b c d f g h i l n o p r t u s κ => (fun qv0 => sandS (fun s κ1 => nilC a s (κ1)) s (fun qv1 v2 s => sandS (fun s κ1 => ptrK v2 0 s (κ1)) s (fun qv3 v4 s => sandS (fun s κ1 => ldV v4 false 1 s (κ1)) s (fun qv5 v6 s => sandS (fun s κ1 => nilC v6 s (κ1)) s (fun qv7 v8 s => sandS (fun s κ1 => ptrK v8 30 s (κ1)) s (fun qv9 v10 s => sandS (fun s κ1 => sliceC P 38 v10 none none none s (κ1)) s (fun qv11 v12 s => (fun qv13 => sandS (fun s κ1 => nilC a s (κ1)) s (fun qv14 v15 s => sandS (fun s κ1 => ptrK v15 1 s (κ1)) s (fun qv16 v17 s => sandS (fun s κ1 => ldV v17 false 1 s (κ1)) s (fun qv18 v19 s => sandS (fun s κ1 => callV v19 [(.i .i64 32)] call yl s (κ1)) s (fun qv20 v21 s => sandS (fun s κ1 => copyC P 45 v12 v21 s (κ1)) s (fun qv22 v23 s => V.iff (dynA [] [qv0, qv1, qv3, qv5, qv7, qv9, qv11, qv13, qv14, qv16, qv18, qv20, qv22] [[], [false], [false, false], [false, false, false], [false, false, false, false], [false, false, false, false, false], [false, false, false, false, false, false], [true, true, true, true, true, true, true], [true, true, true, true, true, true, true, false], [true, true, true, true, true, true, true, false, false], [true, true, true, true, true, true, true, false, false, false], [true, true, true, true, true, true, true, false, false, false, false], [false, false, false, false, false, false, false, false, false, false, false, false]]) (κ (X15.mk m a b a v2 v4 v6 v8 v10 v12 a v15 v17 v19 v21 v23) s))))))) (qz s)))))))) (qz s)) x s κ
theorem r117x0ok : RgOk P true o117x0 T15 r117x0 := fun _ _ x _ _ => by cases x; kernel_rfl
def S117 : SF X15 := (regS P t0.fq r117x0)
theorem S117ok : Sh P t0.fq T15 c117v S117 := by
  have e : c117v = (.region 0 o117x0 true) := by kernel_rfl
  rw [e]
  exact (sh_reg r117x0ok)
def A117 : List FV → Option X15 := fun l => match l with
  | [a] => some (X15.mk [] a .e .e .e .e .e .e .e .e .e .e .e .e .e .e)
  | _ => none
def L117 : LQ := shal P T15 S117 [] 4000 A117
def E117 : LA := evCall P t0.fa 4000 117
theorem G117 : Good P 117 L117 E117 := good_shal all0 (by kernel_rfl) (show FT P 117 = some (c117v, 15, []) by kernel_rfl) S117ok (fun l x h => by
    unfold A117 at h
    split at h
    · cases h; exact ⟨by kernel_rfl, by kernel_rfl⟩
    · cases h) 4000
inductive X10 where
  | mk (m : List Nat) (a b c d f g h i l n : FV)
def T10 (x : X10) : FF := X10.rec (motive := fun _ => FF) (fun m a b c d f g h i l n => ⟨(.n a (.n b (.n g .e .e .e .e) (.n n .e .e .e .e) .e .e) (.n c (.n h .e .e .e .e) .e .e .e) (.n d (.n i .e .e .e .e) .e .e .e) (.n f (.n l .e .e .e .e) .e .e .e)), 10, m⟩) x
def c118v : Code := bodyOf P 118
def o118x0 : Array Oper := regO (pth [0] c118v)
def r118x0 : RG X10 := fun call yl x s κ => X10.rec (motive := fun _ => MO X10) (fun m a b c d f g h i l n s κ => κ (X10.mk m a b c d (.b false) g h i l n) s) x s κ
theorem r118x0ok : RgOk P false o118x0 T10 r118x0 := fun _ _ x _ _ => by cases x; kernel_rfl
def o118x1 : Array Oper := regO (pth [1, 0] c118v)
def r118x1 : RG X10 := fun call yl x s κ => X10.rec (motive := fun _ => MO X10) (fun m a b c d f g h i l n s κ => cvT P 45 9 a s (fun v0 s => cvT P 45 9 b s (fun v1 s => binC v0 v1 9 .eql P s (fun v2 s => κ (X10.mk m a b c d v2 a v0 b v1 v2) s)))) x s κ
theorem r118x1ok : RgOk P false o118x1 T10 r118x1 := fun _ _ x _ _ => by cases x; kernel_rfl
def S118 : SF X10 := (seqS (regS P t0.fq r118x0) (seqS (regS P t0.fq r118x1) retS))
theorem S118ok : Sh P t0.fq T10 c118v S118 := by
  have e : c118v = (.seq (.region 0 o118x0 false) (.seq (.region 1 o118x1 false) .ret)) := by kernel_rfl
  rw [e]
  exact (sh_seq (sh_reg r118x0ok) (sh_seq (sh_reg r118x1ok) sh_ret))
def A118 : List FV → Option X10 := fun l => match l with
  | [a, b] => some (X10.mk [] a b .e .e .e .e .e .e .e .e)
  | _ => none
def L118 : LQ := shal P T10 S118 [.tmp 4] 4000 A118
def E118 : LA := evCall P t0.fa 4000 118
theorem G118 : Good P 118 L118 E118 := good_shal all0 (by kernel_rfl) (show FT P 118 = some (c118v, 10, [.tmp 4]) by kernel_rfl) S118ok (fun l x h => by
    unfold A118 at h
    split at h
    · cases h; exact ⟨by kernel_rfl, by kernel_rfl⟩
    · cases h) 4000
inductive X62 where
  | mk (m : List Nat) (a b c d f g h i l n o p r t u w y z A B C D E F G H I J K L M N O Q R S T U W Y Z a1 b1 c1 d1 f1 g1 h1 i1 l1 n1 o1 p1 r1 t1 u1 w1 y1 z1 A1 B1 C1 : FV)
def T62 (x : X62) : FF := X62.rec (motive := fun _ => FF) (fun m a b c d f g h i l n o p r t u w y z A B C D E F G H I J K L M N O Q R S T U W Y Z a1 b1 c1 d1 f1 g1 h1 i1 l1 n1 o1 p1 r1 t1 u1 w1 y1 z1 A1 B1 C1 => ⟨(.n a (.n b (.n g (.n D .e .e .e .e) (.n U .e .e .e .e) (.n r1 .e .e .e .e) .e) (.n n (.n H .e .e .e .e) (.n a1 .e .e .e .e) (.n y1 .e .e .e .e) .e) (.n t (.n L .e .e .e .e) (.n f1 .e .e .e .e) (.n C1 .e .e .e .e) .e) (.n z (.n Q .e .e .e .e) (.n l1 .e .e .e .e) .e .e)) (.n c (.n h (.n E .e .e .e .e) (.n W .e .e .e .e) (.n t1 .e .e .e .e) .e) (.n o (.n I .e .e .e .e) (.n b1 .e .e .e .e) (.n z1 .e .e .e .e) .e) (.n u (.n M .e .e .e .e) (.n g1 .e .e .e .e) .e .e) (.n A (.n R .e .e .e .e) (.n n1 .e .e .e .e) .e .e)) (.n d (.n i (.n F .e .e .e .e) (.n Y .e .e .e .e) (.n u1 .e .e .e .e) .e) (.n p (.n J .e .e .e .e) (.n c1 .e .e .e .e) (.n A1 .e .e .e .e) .e) (.n w (.n N .e .e .e .e) (.n h1 .e .e .e .e) .e .e) (.n B (.n S .e .e .e .e) (.n o1 .e .e .e .e) .e .e)) (.n f (.n l (.n G .e .e .e .e) (.n Z .e .e .e .e) (.n w1 .e .e .e .e) .e) (.n r (.n K .e .e .e .e) (.n d1 .e .e .e .e) (.n B1 .e .e .e .e) .e) (.n y (.n O .e .e .e .e) (.n i1 .e .e .e .e) .e .e) (.n C (.n T .e .e .e .e) (.n p1 .e .e .e .e) .e .e))), 62, m⟩) x
def c120v : Code := bodyOf P 120
def o120x0 : Array Oper := regO (pth [0] c120v)
def r120x0 : RG X62 := fun call yl x s κ => X62.rec (motive := fun _ => MO X62) (fun m a b c d f g h i l n o p r t u w y z A B C D E F G H I J K L M N O Q R S T U W Y Z a1 b1 c1 d1 f1 g1 h1 i1 l1 n1 o1 p1 r1 t1 u1 w1 y1 z1 A1 B1 C1 s κ => bxV a 40 s (fun v0 s => κ (X62.mk m a v0 (.b false) d f g h i l n o p r t u w y z A B C D E F G H I J K L M N O Q R S T U W Y Z a1 b1 c1 d1 f1 g1 h1 i1 l1 n1 o1 p1 r1 t1 u1 w1 y1 z1 A1 B1 C1) s)) x s κ
theorem r120x0ok : RgOk P false o120x0 T62 r120x0 := fun _ _ x _ _ => by cases x; kernel_rfl
def o120x1 : Array Oper := regO (pth [1, 0] c120v)
def r120x1 : RG X62 := fun call yl x s κ => X62.rec (motive := fun _ => MO X62) (fun m a b c d f g h i l n o p r t u w y z A B C D E F G H I J K L M N O Q R S T U W Y Z a1 b1 c1 d1 f1 g1 h1 i1 l1 n1 o1 p1 r1 t1 u1 w1 y1 z1 A1 B1 C1 s κ => ptrK b 0 s (fun v0 s => ldV v0 false 1 s (fun v1 s => binC v1 (.i .i64 8) 3 .geq P s (fun v2 s => bnk (fun κ1 => wantC v2 true (ptrK b 0 s (κ1)) (κ1 .e s)) (fun v3 s => bnk (fun κ1 => wantC v2 true (ldV v3 false 1 s (κ1)) (κ1 .e s)) (fun v4 s => bnk (fun κ1 => wantC v2 true (binC v4 (.i .i64 14) 3 .leq P s (κ1)) (κ1 .e s)) (fun v5 s => bnk (fun κ0 => condB v2 (κ0 v5 s) (κ0 (.b false) s)) (fun v6 s => κ (X62.mk m a b c v6 f g v0 v1 v2 v2 v3 v4 v5 v6 u w y z A B C D E F G H I J K L M N O Q R S T U W Y Z a1 b1 c1 d1 f1 g1 h1 i1 l1 n1 o1 p1 r1 t1 u1 w1 y1 z1 A1 B1 C1) s)))))))) x s κ
theorem r120x1ok : RgOk P false o120x1 T62 r120x1 := fun _ _ x _ _ => by cases x; kernel_rfl
def o120x2 : Array Oper := regO (pth [1, 1, 0, 0] c120v)
def r120x2 : RG X62 := fun call yl x s κ => X62.rec (motive := fun _ => MO X62) (fun m a b c d f g h i l n o p r t u w y z A B C D E F G H I J K L M N O Q R S T U W Y Z a1 b1 c1 d1 f1 g1 h1 i1 l1 n1 o1 p1 r1 t1 u1 w1 y1 z1 A1 B1 C1 s κ => κ (X62.mk m a b c d (.i .i64 0) g h i l n o p r t u w y z A B C D E F G H I J K L M N O Q R S T U W Y Z a1 b1 c1 d1 f1 g1 h1 i1 l1 n1 o1 p1 r1 t1 u1 w1 y1 z1 A1 B1 C1) s) x s κ
theorem r120x2ok : RgOk P false o120x2 T62 r120x2 := fun _ _ x _ _ => by cases x; kernel_rfl
def o120x3 : Array Oper := regO (pth [1, 1, 0, 1, 0, 0, 0, 0] c120v)
def r120x3 : RG X62 := fun call yl x s κ => X62.rec (motive := fun _ => MO X62) (fun m a b c d f g h i l n o p r t u w y z A B C D E F G H I J K L M N O Q R S T U W Y Z a1 b1 c1 d1 f1 g1 h1 i1 l1 n1 o1 p1 r1 t1 u1 w1 y1 z1 A1 B1 C1 s κ => ptrK b 29 s (fun v0 s => ldV v0 false 1 s (fun v1 s => lenC v1 P 23 s (fun v2 s => binC f v2 3 .lss P s (fun v3 s => κ (X62.mk m a b c d f g h i l n o p r t f v0 v1 v2 v3 B C D E F G H I J K L M N O Q R S T U W Y Z a1 b1 c1 d1 f1 g1 h1 i1 l1 n1 o1 p1 r1 t1 u1 w1 y1 z1 A1 B1 C1) s))))) x s κ
theorem r120x3ok : RgOk P false o120x3 T62 r120x3 := fun _ _ x _ _ => by cases x; kernel_rfl
def o120x4 : Array Oper := regO (pth [1, 1, 0, 1, 0, 0, 1, 0, 0, 0] c120v)
def r120x4 : RG X62 := fun call yl x s κ => X62.rec (motive := fun _ => MO X62) (fun m a b c d f g h i l n o p r t u w y z A B C D E F G H I J K L M N O Q R S T U W Y Z a1 b1 c1 d1 f1 g1 h1 i1 l1 n1 o1 p1 r1 t1 u1 w1 y1 z1 A1 B1 C1 s κ => ptrK b 29 s (fun v0 s => ldV v0 false 1 s (fun v1 s => natK f fun j => iaS v1 j 1 s (fun v2 s => ldV v2 false 1 s (fun v3 s => κ (X62.mk m a b c d f v3 h i l n o p r t u w y z A B C v0 v1 f v2 v3 I J K L M N O Q R S T U W Y Z a1 b1 c1 d1 f1 g1 h1 i1 l1 n1 o1 p1 r1 t1 u1 w1 y1 z1 A1 B1 C1) s))))) x s κ
theorem r120x4ok : RgOk P false o120x4 T62 r120x4 := fun _ _ x _ _ => by cases x; kernel_rfl
def o120x5 : Array Oper := regO (pth [1, 1, 0, 1, 0, 0, 1, 0, 0, 1, 0] c120v)
def r120x5 : RG X62 := fun call yl x s κ => X62.rec (motive := fun _ => MO X62) (fun m a b c d f g h i l n o p r t u w y z A B C D E F G H I J K L M N O Q R S T U W Y Z a1 b1 c1 d1 f1 g1 h1 i1 l1 n1 o1 p1 r1 t1 u1 w1 y1 z1 A1 B1 C1 s κ => binC g (.i .i64 0) 3 .lss P s (fun v0 s => bnk (fun κ1 => wantC v0 false (κ1 g s) (κ1 .e s)) (fun v1 s => bnk (fun κ1 => wantC v0 false (binC v1 (.i .i64 255) 3 .gtr P s (κ1)) (κ1 .e s)) (fun v2 s => bnk (fun κ0 => condB v0 (κ0 (.b true) s) (κ0 v2 s)) (fun v3 s => bnk (fun κ1 => wantC v3 false (κ1 d s) (κ1 .e s)) (fun v4 s => bnk (fun κ1 => wantC v3 false (κ1 v4 s) (κ1 .e s)) (fun v5 s => bnk (fun κ1 => wantC v5 true (κ1 g s) (κ1 .e s)) (fun v6 s => bnk (fun κ1 => wantC v5 true (binC v6 (.i .i64 15) 3 .gtr P s (κ1)) (κ1 .e s)) (fun v7 s => bnk (fun κ1 => wantC v5 true (κ1 v7 s) (κ1 .e s)) (fun v8 s => bnk (fun κ1 => wantC v8 false (κ1 f s) (κ1 .e s)) (fun v9 s => bnk (fun κ1 => wantC v8 false (binC v9 (.i .i64 0) 3 .gtr P s (κ1)) (κ1 .e s)) (fun v10 s => bnk (fun κ1 => wantC v8 false (κ1 v10 s) (κ1 .e s)) (fun v11 s => bnk (fun κ1 => wantC v11 true (κ1 g s) (κ1 .e s)) (fun v12 s => bnk (fun κ1 => wantC v11 true (ptrK b 29 s (κ1)) (κ1 .e s)) (fun v13 s => bnk (fun κ1 => wantC v11 true (ldV v13 false 1 s (κ1)) (κ1 .e s)) (fun v14 s => bnk (fun κ1 => wantC v11 true (κ1 f s) (κ1 .e s)) (fun v15 s => bnk (fun κ1 => wantC v11 true (binC v15 (.i .i64 1) 3 .sub P s (κ1)) (κ1 .e s)) (fun v16 s => bnk (fun κ1 => wantC v11 true (natK v16 fun j => iaS v14 j 1 s (κ1)) (κ1 .e s)) (fun v17 s => bnk (fun κ1 => wantC v11 true (ldV v17 false 1 s (κ1)) (κ1 .e s)) (fun v18 s => bnk (fun κ1 => wantC v11 true (binC v12 v18 3 .leq P s (κ1)) (κ1 .e s)) (fun v19 s => bnk (fun κ1 => wantC v8 false (bnk (fun κ0 => condB v11 (κ0 v19 s) (κ0 (.b false) s)) (κ1)) (κ1 .e s)) (fun v20 s => bnk (fun κ1 => wantC v5 true (bnk (fun κ0 => condB v8 (κ0 (.b true) s) (κ0 v20 s)) (κ1)) (κ1 .e s)) (fun v21 s => bnk (fun κ1 => wantC v3 false (bnk (fun κ0 => condB v5 (κ0 v21 s) (κ0 (.b false) s)) (κ1)) (κ1 .e s)) (fun v22 s => bnk (fun κ0 => condB v3 (κ0 (.b true) s) (κ0 v22 s)) (fun v23 s => κ (X62.mk m a b c d f g h i l n o p r t u w y z A B C D E F G H g v0 v0 v1 v2 v3 v3 v4 v5 v6 v7 v8 v9 v10 v11 v12 v13 v14 v15 v16 v17 v18 v19 v20 v21 v22 v23 r1 t1 u1 w1 y1 z1 A1 B1 C1) s))))))))))))))))))))))))) x s κ
theorem r120x5ok : RgOk P false o120x5 T62 r120x5 := fun _ _ x _ _ => by cases x; kernel_rfl
def o120x6 : Array Oper := regO (pth [1, 1, 0, 1, 0, 0, 1, 0, 0, 1, 1, 0, 0] c120v)
def r120x6 : RG X62 := fun call yl x s κ => X62.rec (motive := fun _ => MO X62) (fun m a b c d f g h i l n o p r t u w y z A B C D E F G H I J K L M N O Q R S T U W Y Z a1 b1 c1 d1 f1 g1 h1 i1 l1 n1 o1 p1 r1 t1 u1 w1 y1 z1 A1 B1 C1 s κ => κ (X62.mk m a b (.b false) d f g h i l n o p r t u w y z A B C D E F G H I J K L M N O Q R S T U W Y Z a1 b1 c1 d1 f1 g1 h1 i1 l1 n1 o1 p1 r1 t1 u1 w1 y1 z1 A1 B1 C1) s) x s κ
theorem r120x6ok : RgOk P false o120x6 T62 r120x6 := fun _ _ x _ _ => by cases x; kernel_rfl
def o120x7 : Array Oper := regO (pth [1, 1, 0, 1, 0, 0, 1, 1] c120v)
def r120x7 : RG X62 := fun call yl x s κ => X62.rec (motive := fun _ => MO X62) (fun m a b c d f g h i l n o p r t u w y z A B C D E F G H I J K L M N O Q R S T U W Y Z a1 b1 c1 d1 f1 g1 h1 i1 l1 n1 o1 p1 r1 t1 u1 w1 y1 z1 A1 B1 C1 s κ => binC f (.i .i64 1) 3 .add P s (fun v0 s => κ (X62.mk m a b c d v0 g h i l n o p r t u w y z A f v0 D E F G H I J K L M N O Q R S T U W Y Z a1 b1 c1 d1 f1 g1 h1 i1 l1 n1 o1 p1 r1 t1 u1 w1 y1 z1 A1 B1 C1) s)) x s κ
theorem r120x7ok : RgOk P false o120x7 T62 r120x7 := fun _ _ x _ _ => by cases x; kernel_rfl
def o120x8 : Array Oper := regO (pth [1, 1, 1, 0] c120v)
def r120x8 : RG X62 := fun call yl x s κ => X62.rec (motive := fun _ => MO X62) (fun m a b c d f g h i l n o p r t u w y z A B C D E F G H I J K L M N O Q R S T U W Y Z a1 b1 c1 d1 f1 g1 h1 i1 l1 n1 o1 p1 r1 t1 u1 w1 y1 z1 A1 B1 C1 s κ => ptrK b 0 s (fun v0 s => ldV v0 false 1 s (fun v1 s => binC v1 (.i .i64 17) 3 .neq P s (fun v2 s => bnk (fun κ1 => wantC v2 false (ptrK b 29 s (κ1)) (κ1 .e s)) (fun v3 s => bnk (fun κ1 => wantC v2 false (ldV v3 false 1 s (κ1)) (κ1 .e s)) (fun v4 s => bnk (fun κ1 => wantC v2 false (lenC v4 P 23 s (κ1)) (κ1 .e s)) (fun v5 s => bnk (fun κ1 => wantC v2 false (binC v5 (.i .i64 0) 3 .gtr P s (κ1)) (κ1 .e s)) (fun v6 s => bnk (fun κ0 => condB v2 (κ0 (.b true) s) (κ0 v6 s)) (fun v7 s => κ (X62.mk m a b v7 d f g h i l n o p r t u w y z A B C D E F G H I J K L M N O Q R S T U W Y Z a1 b1 c1 d1 f1 g1 h1 i1 l1 n1 o1 p1 v0 v1 v2 v2 v3 v4 v5 v6 v7) s))))))))) x s κ
theorem r120x8ok : RgOk P false o120x8 T62 r120x8 := fun _ _ x _ _ => by cases x; kernel_rfl
def S120 : SF X62 := (seqS (regS P t0.fq r120x0) (seqS (regS P t0.fq r120x1) (seqS (seqS (regS P t0.fq r120x2) (blkS 0 (loopS (seqS (seqS (regS P t0.fq r120x3) (condS (fun x => X62.rec (motive := fun _ => FV) (fun _ _ _ _ _ _ _ _ _ _ _ _ _ _ _ _ _ _ _ z _ _ _ _ _ _ _ _ _ _ _ _ _ _ _ _ _ _ _ _ _ _ _ _ _ _ _ _ _ _ _ _ _ _ _ _ _ _ _ _ _ _ _ => z) x) skipS (exitS 0))) (seqS (blkS 1 (seqS (regS P t0.fq r120x4) (seqS (regS P t0.fq r120x5) (condS (fun x => X62.rec (motive := fun _ => FV) (fun _ _ _ _ _ _ _ _ _ _ _ _ _ _ _ _ _ _ _ _ _ _ _ _ _ _ _ _ _ _ _ _ _ _ _ _ _ _ _ _ _ _ _ _ _ _ _ _ _ _ _ _ _ z _ _ _ _ _ _ _ _ _ => z) x) (seqS (regS P t0.fq r120x6) retS) skipS)))) (regS P t0.fq r120x7)))))) (seqS (regS P t0.fq r120x8) retS))))
theorem S120ok : Sh P t0.fq T62 c120v S120 := by
  have e : c120v = (.seq (.region 0 o120x0 false) (.seq (.region 1 o120x1 false) (.seq (.seq (.region 2 o120x2 false) (.block 0 (.loop (.seq (.seq (.region 3 o120x3 false) (.cond (.tmp 18) .skip (.exit 0))) (.seq (.block 1 (.seq (.region 5 o120x4 false) (.seq (.region 6 o120x5 false) (.cond (.tmp 52) (.seq (.region 7 o120x6 false) .ret) .skip)))) (.region 4 o120x7 false)))))) (.seq (.region 8 o120x8 false) .ret)))) := by kernel_rfl
  rw [e]
  exact (sh_seq (sh_reg r120x0ok) (sh_seq (sh_reg r120x1ok) (sh_seq (sh_seq (sh_reg r120x2ok) (sh_blk 0 (sh_loop (sh_seq (sh_seq (sh_reg r120x3ok) (sh_cond (fun x => by cases x; rfl) sh_skip (sh_exit 0))) (sh_seq (sh_blk 1 (sh_seq (sh_reg r120x4ok) (sh_seq (sh_reg r120x5ok) (sh_cond (fun x => by cases x; rfl) (sh_seq (sh_reg r120x6ok) sh_ret) sh_skip)))) (sh_reg r120x7ok)))))) (sh_seq (sh_reg r120x8ok) sh_ret))))
def A120 : List FV → Option X62 := fun l => match l with
  | [a] => some (X62.mk [] a .e .e .e .e .e .e .e .e .e .e .e .e .e .e .e .e .e .e .e .e .e .e .e .e .e .e .e .e .e .e .e .e .e .e .e .e .e .e .e .e .e .e .e .e .e .e .e .e .e .e .e .e .e .e .e .e .e .e .e .e .e)
  | _ => none
def L120 : LQ := shal P T62 S120 [.tmp 2] 4000 A120
def E120 : LA := evCall P t0.fa 4000 120
theorem G120 : Good P 120 L120 E120 := good_shal all0 (by kernel_rfl) (show FT P 120 = some (c120v, 62, [.tmp 2]) by kernel_rfl) S120ok (fun l x h => by
    unfold A120 at h
    split at h
    · cases h; exact ⟨by kernel_rfl, by kernel_rfl⟩
    · cases h) 4000
def c136v : Code := bodyOf P 136
def o136x0 : Array Oper := regO (pth [0] c136v)
def r136x0 : RG X53 := fun call yl x s κ => X53.rec (motive := fun _ => MO X53) (fun m a b c d f g h i l n o p r t u w y z A B C D E F G H I J K L M N O Q R S T U W Y Z a1 b1 c1 d1 f1 g1 h1 i1 l1 n1 o1 p1 s κ => κ (X53.mk m a b c (.o (.sl none 0 0)) f g h i l n o p r t u w y z A B C D E F G H I J K L M N O Q R S T U W Y Z a1 b1 c1 d1 f1 g1 h1 i1 l1 n1 o1 p1) s) x s κ
theorem r136x0ok : RgOk P false o136x0 T53 r136x0 := fun _ _ x _ _ => by cases x; kernel_rfl
def o136x1 : Array Oper := regO (pth [1, 0, 0] c136v)
def r136x1 : RG X53 := fun call yl x s κ => X53.rec (motive := fun _ => MO X53) (fun m a b c d f g h i l n o p r t u w y z A B C D E F G H I J K L M N O Q R S T U W Y Z a1 b1 c1 d1 f1 g1 h1 i1 l1 n1 o1 p1 s κ => ldV b false 1 s (fun v0 s => lenC v0 P 158 s (fun v1 s => κ (X53.mk m a b c d f g h i v0 v1 (.i .i64 0) p r t u w y z A B C D E F G H I J K L M N O Q R S T U W Y Z a1 b1 c1 d1 f1 g1 h1 i1 l1 n1 o1 p1) s))) x s κ
theorem r136x1ok : RgOk P false o136x1 T53 r136x1 := fun _ _ x _ _ => by cases x; kernel_rfl
def o136x2 : Array Oper := regO (pth [1, 0, 1, 0, 0, 0] c136v)
def r136x2 : RG X53 := fun call yl x s κ => X53.rec (motive := fun _ => MO X53) (fun m a b c d f g h i l n o p r t u w y z A B C D E F G H I J K L M N O Q R S T U W Y Z a1 b1 c1 d1 f1 g1 h1 i1 l1 n1 o1 p1 s κ => binC o n 3 .lss P s (fun v0 s => κ (X53.mk m a b c d f g h i l n o v0 r t u w y z A B C D E F G H I J K L M N O Q R S T U W Y Z a1 b1 c1 d1 f1 g1 h1 i1 l1 n1 o1 p1) s)) x s κ
theorem r136x2ok : RgOk P false o136x2 T53 r136x2 := fun _ _ x _ _ => by cases x; kernel_rfl
def o136x3 : Array Oper := regO (pth [1, 0, 1, 0, 0, 1, 1, 0, 0, 0] c136v)
def r136x3 : RG X53 := fun call yl x s κ => X53.rec (motive := fun _ => MO X53) (fun m a b c d f g h i l n o p r t u w y z A B C D E F G H I J K L M N O Q R S T U W Y Z a1 b1 c1 d1 f1 g1 h1 i1 l1 n1 o1 p1 s κ => natK o fun j => iaS l j 1 s (fun v0 s => ldV v0 false 1 s (fun v1 s => κ (X53.mk m a b c d f v1 h i l n o p v0 v1 u w y z A B C D E F G H I J K L M N O Q R S T U W Y Z a1 b1 c1 d1 f1 g1 h1 i1 l1 n1 o1 p1) s))) x s κ
theorem r136x3ok : RgOk P false o136x3 T53 r136x3 := fun _ _ x _ _ => by cases x; kernel_rfl
def o136x4 : Array Oper := regO (pth [1, 0, 1, 0, 0, 1, 1, 0, 0, 1] c136v)
def r136x4 : RG X53 := fun call yl x s κ => X53.rec (motive := fun _ => MO X53) (fun m a b c d f g h i l n o p r t u w y z A B C D E F G H I J K L M N O Q R S T U W Y Z a1 b1 c1 d1 f1 g1 h1 i1 l1 n1 o1 p1 s κ => appendC P 45 45 d g s (fun v0 s => κ (X53.mk m a b c v0 f g h i l n o p r t d g v0 z A B C D E F G H I J K L M N O Q R S T U W Y Z a1 b1 c1 d1 f1 g1 h1 i1 l1 n1 o1 p1) s)) x s κ
theorem r136x4ok : RgOk P false o136x4 T53 r136x4 := fun _ _ x _ _ => by cases x; kernel_rfl
def o136x5 : Array Oper := regO (pth [1, 0, 1, 0, 0, 1, 1, 1] c136v)
def r136x5 : RG X53 := fun call yl x s κ => X53.rec (motive := fun _ => MO X53) (fun m a b c d f g h i l n o p r t u w y z A B C D E F G H I J K L M N O Q R S T U W Y Z a1 b1 c1 d1 f1 g1 h1 i1 l1 n1 o1 p1 s κ => binC o (.i .i64 1) 3 .add P s (fun v0 s => κ (X53.mk m a b c d f g h i l n v0 p r t u w y v0 A B C D E F G H I J K L M N O Q R S T U W Y Z a1 b1 c1 d1 f1 g1 h1 i1 l1 n1 o1 p1) s)) x s κ
theorem r136x5ok : RgOk P false o136x5 T53 r136x5 := fun _ _ x _ _ => by cases x; kernel_rfl
def o136x6 : Array Oper := regO (pth [1, 1, 0] c136v)
def r136x6 : RG X53 := fun call yl x s κ => X53.rec (motive := fun _ => MO X53) (fun m a b c d f g h i l n o p r t u w y z A B C D E F G H I J K L M N O Q R S T U W Y Z a1 b1 c1 d1 f1 g1 h1 i1 l1 n1 o1 p1 s κ => lenC d P 45 s (fun v0 s => cvV v0 .u64 s (fun v1 s => binC (.i .u64 8) v1 137 .mul P s (fun v2 s => κ (X53.mk m a b c d f g v2 i l n o p r t u w y z d v0 v1 v2 E F G H I J K L M N O Q R S T U W Y Z a1 b1 c1 d1 f1 g1 h1 i1 l1 n1 o1 p1) s)))) x s κ
theorem r136x6ok : RgOk P false o136x6 T53 r136x6 := fun _ _ x _ _ => by cases x; kernel_rfl
def o136x7 : Array Oper := regO (pth [1, 1, 1, 0] c136v)
def r136x7 : RG X53 := fun call yl x s κ => X53.rec (motive := fun _ => MO X53) (fun m a b c d f g h i l n o p r t u w y z A B C D E F G H I J K L M N O Q R S T U W Y Z a1 b1 c1 d1 f1 g1 h1 i1 l1 n1 o1 p1 s κ => buildSliceC P 45 1 [(0, (.i .u8 128))] s (fun v0 s => appendC P 45 45 d v0 s (fun v1 s => κ (X53.mk m a b c v1 f g h i l n o p r t u w y z A B C D d v0 v1 H I J K L M N O Q R S T U W Y Z a1 b1 c1 d1 f1 g1 h1 i1 l1 n1 o1 p1) s))) x s κ
theorem r136x7ok : RgOk P false o136x7 T53 r136x7 := fun _ _ x _ _ => by cases x; kernel_rfl
def o136x8 : Array Oper := regO (pth [1, 1, 1, 1, 0, 0, 0, 0, 0] c136v)
def r136x8 : RG X53 := fun call yl x s κ => X53.rec (motive := fun _ => MO X53) (fun m a b c d f g h i l n o p r t u w y z A B C D E F G H I J K L M N O Q R S T U W Y Z a1 b1 c1 d1 f1 g1 h1 i1 l1 n1 o1 p1 s κ => lenC d P 45 s (fun v0 s => binC v0 (.i .i64 64) 3 .rem P s (fun v1 s => binC v1 (.i .i64 56) 3 .neq P s (fun v2 s => κ (X53.mk m a b c d f g h i l n o p r t u w y z A B C D E F G d v0 v1 v2 L M N O Q R S T U W Y Z a1 b1 c1 d1 f1 g1 h1 i1 l1 n1 o1 p1) s)))) x s κ
theorem r136x8ok : RgOk P false o136x8 T53 r136x8 := fun _ _ x _ _ => by cases x; kernel_rfl
def o136x9 : Array Oper := regO (pth [1, 1, 1, 1, 0, 0, 0, 1, 0] c136v)
def r136x9 : RG X53 := fun call yl x s κ => X53.rec (motive := fun _ => MO X53) (fun m a b c d f g h i l n o p r t u w y z A B C D E F G H I J K L M N O Q R S T U W Y Z a1 b1 c1 d1 f1 g1 h1 i1 l1 n1 o1 p1 s κ => buildSliceC P 45 1 [(0, (.i .u8 0))] s (fun v0 s => appendC P 45 45 d v0 s (fun v1 s => κ (X53.mk m a b c v1 f g h i l n o p r t u w y z A B C D E F G H I J K d v0 v1 O Q R S T U W Y Z a1 b1 c1 d1 f1 g1 h1 i1 l1 n1 o1 p1) s))) x s κ
theorem r136x9ok : RgOk P false o136x9 T53 r136x9 := fun _ _ x _ _ => by cases x; kernel_rfl
def o136x10 : Array Oper := regO (pth [1, 1, 1, 1, 1, 0, 0] c136v)
def r136x10 : RG X53 := fun call yl x s κ => X53.rec (motive := fun _ => MO X53) (fun m a b c d f g h i l n o p r t u w y z A B C D E F G H I J K L M N O Q R S T U W Y Z a1 b1 c1 d1 f1 g1 h1 i1 l1 n1 o1 p1 s κ => κ (X53.mk m a b c d f g h (.i .i64 56) l n o p r t u w y z A B C D E F G H I J K L M N O Q R S T U W Y Z a1 b1 c1 d1 f1 g1 h1 i1 l1 n1 o1 p1) s) x s κ
theorem r136x10ok : RgOk P false o136x10 T53 r136x10 := fun _ _ x _ _ => by cases x; kernel_rfl
def o136x11 : Array Oper := regO (pth [1, 1, 1, 1, 1, 0, 1, 0, 0, 0, 0] c136v)
def r136x11 : RG X53 := fun call yl x s κ => X53.rec (motive := fun _ => MO X53) (fun m a b c d f g h i l n o p r t u w y z A B C D E F G H I J K L M N O Q R S T U W Y Z a1 b1 c1 d1 f1 g1 h1 i1 l1 n1 o1 p1 s κ => binC i (.i .i64 0) 3 .geq P s (fun v0 s => κ (X53.mk m a b c d f g h i l n o p r t u w y z A B C D E F G H I J K L M N i v0 R S T U W Y Z a1 b1 c1 d1 f1 g1 h1 i1 l1 n1 o1 p1) s)) x s κ
theorem r136x11ok : RgOk P false o136x11 T53 r136x11 := fun _ _ x _ _ => by cases x; kernel_rfl
def o136x12 : Array Oper := regO (pth [1, 1, 1, 1, 1, 0, 1, 0, 0, 1, 0, 0] c136v)
def r136x12 : RG X53 := fun call yl x s κ => X53.rec (motive := fun _ => MO X53) (fun m a b c d f g h i l n o p r t u w y z A B C D E F G H I J K L M N O Q R S T U W Y Z a1 b1 c1 d1 f1 g1 h1 i1 l1 n1 o1 p1 s κ => binC h i 137 .shr P s (fun v0 s => cvV v0 .u8 s (fun v1 s => buildSliceC P 45 1 [(0, v1)] s (fun v2 s => appendC P 45 45 d v2 s (fun v3 s => κ (X53.mk m a b c v3 f g h i l n o p r t u w y z A B C D E F G H I J K L M N O Q R S d h i v0 v1 v2 v3 c1 d1 f1 g1 h1 i1 l1 n1 o1 p1) s))))) x s κ
theorem r136x12ok : RgOk P false o136x12 T53 r136x12 := fun _ _ x _ _ => by cases x; kernel_rfl
def o136x13 : Array Oper := regO (pth [1, 1, 1, 1, 1, 0, 1, 0, 0, 1, 1] c136v)
def r136x13 : RG X53 := fun call yl x s κ => X53.rec (motive := fun _ => MO X53) (fun m a b c d f g h i l n o p r t u w y z A B C D E F G H I J K L M N O Q R S T U W Y Z a1 b1 c1 d1 f1 g1 h1 i1 l1 n1 o1 p1 s κ => binC i (.i .i64 8) 3 .sub P s (fun v0 s => κ (X53.mk m a b c d f g h v0 l n o p r t u w y z A B C D E F G H I J K L M N O Q i v0 T U W Y Z a1 b1 c1 d1 f1 g1 h1 i1 l1 n1 o1 p1) s)) x s κ
theorem r136x13ok : RgOk P false o136x13 T53 r136x13 := fun _ _ x _ _ => by cases x; kernel_rfl
def o136x14 : Array Oper := regO (pth [1, 1, 1, 1, 1, 1, 0, 0, 0, 0] c136v)
def r136x14 : RG X53 := fun call yl x s κ => X53.rec (motive := fun _ => MO X53) (fun m a b c d f g h i l n o p r t u w y z A B C D E F G H I J K L M N O Q R S T U W Y Z a1 b1 c1 d1 f1 g1 h1 i1 l1 n1 o1 p1 s κ => lenC d P 45 s (fun v0 s => binC v0 (.i .i64 0) 3 .gtr P s (fun v1 s => κ (X53.mk m a b c d f g h i l n o p r t u w y z A B C D E F G H I J K L M N O Q R S T U W Y Z a1 b1 d v0 v1 g1 h1 i1 l1 n1 o1 p1) s))) x s κ
theorem r136x14ok : RgOk P false o136x14 T53 r136x14 := fun _ _ x _ _ => by cases x; kernel_rfl
def o136x15 : Array Oper := regO (pth [1, 1, 1, 1, 1, 1, 0, 0, 1, 0, 0, 0] c136v)
def r136x15 : RG X53 := fun call yl x s κ => X53.rec (motive := fun _ => MO X53) (fun m a b c d f g h i l n o p r t u w y z A B C D E F G H I J K L M N O Q R S T U W Y Z a1 b1 c1 d1 f1 g1 h1 i1 l1 n1 o1 p1 s κ => sliceC P 45 d none (some (.i .i64 64)) none s (fun v0 s => callV a [v0] call yl s (fun v1 s => notC v1 s (fun v2 s => κ (X53.mk m a b c d f g h i l n o p r t u w y z A B C D E F G H I J K L M N O Q R S T U W Y Z a1 b1 c1 d1 f1 g1 h1 a d v0 v1 v2) s)))) x s κ
theorem r136x15ok : RgOk P false o136x15 T53 r136x15 := fun _ _ x _ _ => by cases x; kernel_rfl
def o136x16 : Array Oper := regO (pth [1, 1, 1, 1, 1, 1, 0, 0, 1, 1] c136v)
def r136x16 : RG X53 := fun call yl x s κ => X53.rec (motive := fun _ => MO X53) (fun m a b c d f g h i l n o p r t u w y z A B C D E F G H I J K L M N O Q R S T U W Y Z a1 b1 c1 d1 f1 g1 h1 i1 l1 n1 o1 p1 s κ => sliceC P 45 d (some (.i .i64 64)) none none s (fun v0 s => κ (X53.mk m a b c v0 f g h i l n o p r t u w y z A B C D E F G H I J K L M N O Q R S T U W Y Z a1 b1 c1 d1 f1 d v0 i1 l1 n1 o1 p1) s)) x s κ
theorem r136x16ok : RgOk P false o136x16 T53 r136x16 := fun _ _ x _ _ => by cases x; kernel_rfl
def S136 : SF X53 := (seqS (regS P t0.fq r136x0) (seqS (seqS (regS P t0.fq r136x1) (blkS 0 (loopS (seqS (regS P t0.fq r136x2) (seqS (condS (fun x => X53.rec (motive := fun _ => FV) (fun _ _ _ _ _ _ _ _ _ _ _ _ z _ _ _ _ _ _ _ _ _ _ _ _ _ _ _ _ _ _ _ _ _ _ _ _ _ _ _ _ _ _ _ _ _ _ _ _ _ _ _ _ _ => z) x) skipS (exitS 0)) (seqS (blkS 1 (seqS (regS P t0.fq r136x3) (regS P t0.fq r136x4))) (regS P t0.fq r136x5))))))) (seqS (regS P t0.fq r136x6) (seqS (regS P t0.fq r136x7) (seqS (blkS 2 (loopS (seqS (seqS (regS P t0.fq r136x8) (condS (fun x => X53.rec (motive := fun _ => FV) (fun _ _ _ _ _ _ _ _ _ _ _ _ _ _ _ _ _ _ _ _ _ _ _ _ _ _ _ _ _ z _ _ _ _ _ _ _ _ _ _ _ _ _ _ _ _ _ _ _ _ _ _ _ _ => z) x) skipS (exitS 2))) (blkS 3 (regS P t0.fq r136x9))))) (seqS (seqS (regS P t0.fq r136x10) (blkS 4 (loopS (seqS (seqS (regS P t0.fq r136x11) (condS (fun x => X53.rec (motive := fun _ => FV) (fun _ _ _ _ _ _ _ _ _ _ _ _ _ _ _ _ _ _ _ _ _ _ _ _ _ _ _ _ _ _ _ _ _ _ z _ _ _ _ _ _ _ _ _ _ _ _ _ _ _ _ _ _ _ => z) x) skipS (exitS 4))) (seqS (blkS 5 (regS P t0.fq r136x12)) (regS P t0.fq r136x13)))))) (blkS 6 (loopS (seqS (seqS (regS P t0.fq r136x14) (condS (fun x => X53.rec (motive := fun _ => FV) (fun _ _ _ _ _ _ _ _ _ _ _ _ _ _ _ _ _ _ _ _ _ _ _ _ _ _ _ _ _ _ _ _ _ _ _ _ _ _ _ _ _ _ _ _ _ _ z _ _ _ _ _ _ _ => z) x) skipS (exitS 6))) (seqS (blkS 7 (seqS (regS P t0.fq r136x15) (condS (fun x => X53.rec (motive := fun _ => FV) (fun _ _ _ _ _ _ _ _ _ _ _ _ _ _ _ _ _ _ _ _ _ _ _ _ _ _ _ _ _ _ _ _ _ _ _ _ _ _ _ _ _ _ _ _ _ _ _ _ _ _ _ _ _ z => z) x) retS skipS))) (regS P t0.fq r136x16)))))))))))
theorem S136ok : Sh P t0.fq T53 c136v S136 := by
  have e : c136v = (.seq (.region 0 o136x0 false) (.seq (.seq (.region 1 o136x1 false) (.block 0 (.loop (.seq (.region 2 o136x2 false) (.seq (.cond (.tmp 11) .skip (.exit 0)) (.seq (.block 1 (.seq (.region 3 o136x3 false) (.region 4 o136x4 false))) (.region 5 o136x5 false))))))) (.seq (.region 6 o136x6 false) (.seq (.region 7 o136x7 false) (.seq (.block 2 (.loop (.seq (.seq (.region 8 o136x8 false) (.cond (.tmp 28) .skip (.exit 2))) (.block 3 (.region 9 o136x9 false))))) (.seq (.seq (.region 10 o136x10 false) (.block 4 (.loop (.seq (.seq (.region 11 o136x11 false) (.cond (.tmp 33) .skip (.exit 4))) (.seq (.block 5 (.region 13 o136x12 false)) (.region 12 o136x13 false)))))) (.block 6 (.loop (.seq (.seq (.region 14 o136x14 false) (.cond (.tmp 45) .skip (.exit 6))) (.seq (.block 7 (.seq (.region 16 o136x15 false) (.cond (.tmp 52) .ret .skip))) (.region 15 o136x16 false))))))))))) := by kernel_rfl
  rw [e]
  exact (sh_seq (sh_reg r136x0ok) (sh_seq (sh_seq (sh_reg r136x1ok) (sh_blk 0 (sh_loop (sh_seq (sh_reg r136x2ok) (sh_seq (sh_cond (fun x => by cases x; rfl) sh_skip (sh_exit 0)) (sh_seq (sh_blk 1 (sh_seq (sh_reg r136x3ok) (sh_reg r136x4ok))) (sh_reg r136x5ok))))))) (sh_seq (sh_reg r136x6ok) (sh_seq (sh_reg r136x7ok) (sh_seq (sh_blk 2 (sh_loop (sh_seq (sh_seq (sh_reg r136x8ok) (sh_cond (fun x => by cases x; rfl) sh_skip (sh_exit 2))) (sh_blk 3 (sh_reg r136x9ok))))) (sh_seq (sh_seq (sh_reg r136x10ok) (sh_blk 4 (sh_loop (sh_seq (sh_seq (sh_reg r136x11ok) (sh_cond (fun x => by cases x; rfl) sh_skip (sh_exit 4))) (sh_seq (sh_blk 5 (sh_reg r136x12ok)) (sh_reg r136x13ok)))))) (sh_blk 6 (sh_loop (sh_seq (sh_seq (sh_reg r136x14ok) (sh_cond (fun x => by cases x; rfl) sh_skip (sh_exit 6))) (sh_seq (sh_blk 7 (sh_seq (sh_reg r136x15ok) (sh_cond (fun x => by cases x; rfl) sh_ret sh_skip))) (sh_reg r136x16ok)))))))))))
def A136 : List FV → Option X53 := fun l => match l with
  | [a, b] => some (X53.mk [] a b .e .e .e .e .e .e .e .e .e .e .e .e .e .e .e .e .e .e .e .e .e .e .e .e .e .e .e .e .e .e .e .e .e .e .e .e .e .e .e .e .e .e .e .e .e .e .e .e .e .e .e)
  | _ => none
def L136 : LQ := shal P T53 S136 [] 4000 A136
def E136 : LA := evCall P t0.fa 4000 136
theorem G136 : Good P 136 L136 E136 := good_shal all0 (by kernel_rfl) (show FT P 136 = some (c136v, 53, []) by kernel_rfl) S136ok (fun l x h => by
    unfold A136 at h
    split at h
    · cases h; exact ⟨by kernel_rfl, by kernel_rfl⟩
    · cases h) 4000
inductive X30 where
  | mk (m : List Nat) (a b c d f g h i l n o p r t u w y z A B C D E F G H I J K L : FV)
def T30 (x : X30) : FF := X30.rec (motive := fun _ => FF) (fun m a b c d f g h i l n o p r t u w y z A B C D E F G H I J K L => ⟨(.n a (.n b (.n g (.n D .e .e .e .e) .e .e .e) (.n n (.n H .e .e .e .e) .e .e .e) (.n t (.n L .e .e .e .e) .e .e .e) (.n z .e .e .e .e)) (.n c (.n h (.n E .e .e .e .e) .e .e .e) (.n o (.n I .e .e .e .e) .e .e .e) (.n u .e .e .e .e) (.n A .e .e .e .e)) (.n d (.n i (.n F .e .e .e .e) .e .e .e) (.n p (.n J .e .e .e .e) .e .e .e) (.n w .e .e .e .e) (.n B .e .e .e .e)) (.n f (.n l (.n G .e .e .e .e) .e .e .e) (.n r (.n K .e .e .e .e) .e .e .e) (.n y .e .e .e .e) (.n C .e .e .e .e))), 30, m⟩) x
def c139v : Code := bodyOf P 139
def o139x0 : Array Oper := regO (pth [0] c139v)
def r139x0 : RG X30 := fun call yl x s κ => X30.rec (motive := fun _ => MO X30) (fun m a b c d f g h i l n o p r t u w y z A B C D E F G H I J K L s κ => κ (X30.mk m a b c d (.o (.sl none 0 0)) g h i l n o p r t u w y z A B C D E F G H I J K L) s) x s κ
theorem r139x0ok : RgOk P false o139x0 T30 r139x0 := fun _ _ x _ _ => by cases x; kernel_rfl
def o139x1 : Array Oper := regO (pth [1, 0, 0] c139v)
def r139x1 : RG X30 := fun call yl x s κ => X30.rec (motive := fun _ => MO X30) (fun m a b c d f g h i l n o p r t u w y z A B C D E F G H I J K L s κ => sandS (fun s κ1 => ldV b false 1 s (κ1)) s (fun qv0 v1 s => sandS (fun s κ1 => ldV b false 1 s (κ1)) s (fun qv2 v3 s => sandS (fun s κ1 => nilC v3 s (κ1)) s (fun qv4 v5 s => sandS (fun s κ1 => ptrK v5 2 s (κ1)) s (fun qv6 v7 s => sandS (fun s κ1 => ldV v7 false 1 s (κ1)) s (fun qv8 v9 s => (fun qv10 => sandS (fun s κ1 => bnk (fun κ1 => wantC v9 false (κ1 a s) (κ1 .e s)) κ1) s (fun qv11 v12 s => sandS (fun s κ1 => bnk (fun κ1 => wantC v9 false (ldV c false 1 s (κ1)) (κ1 .e s)) κ1) s (fun qv13 v14 s => sandS (fun s κ1 => bnk (fun κ1 => wantC v9 false (lenC v14 P 45 s (κ1)) (κ1 .e s)) κ1) s (fun qv15 v16 s => sandS (fun s κ1 => bnk (fun κ1 => wantC v9 false (binC v12 v16 3 .gtr P s (κ1)) (κ1 .e s)) κ1) s (fun qv17 v18 s => sandS (fun s κ1 => bnk (fun κ0 => condB v9 (κ0 (.b true) s) (κ0 v18 s)) (κ1)) s (fun qv19 v20 s => sandS (fun s κ1 => nilC v1 s (κ1)) s (fun qv21 v22 s => sandS (fun s κ1 => ptrK v22 2 s (κ1)) s (fun qv23 v24 s => sandS (fun s κ1 => stA v24 v20 1 s (κ1)) s (fun qv25 v26 s => V.iff (dynA [] [qv0, qv2, qv4, qv6, qv8, qv10, qv11, qv13, qv15, qv17, qv19, qv21, qv23, qv25] [[], [true], [true, false], [true, false, false], [true, false, false, false], [true, false, false, false, false], [true, false, false, false, false, false], [true, false, false, false, false, false, true], [true, false, false, false, false, false, true, false], [true, false, false, false, false, false, false, false, false], [true, false, false, false, false, false, false, false, false, false], [false, false, false, false, false, false, false, false, false, false, false], [false, false, false, false, false, false, false, false, false, false, false, false], [false, false, false, false, false, false, false, false, false, false, false, false, false]]) (κ (X30.mk m a b c d f g v1 v3 v5 v7 v9 v9 v12 v14 v16 v18 v20 v22 v24 B C D E F G H I J K L) s)))))))))) (qz s))))))) x s κ
theorem r139x1ok : RgOk P true o139x1 T30 r139x1 := fun _ _ x _ _ => by cases x; kernel_rfl
def o139x2 : Array Oper := regO (pth [1, 0, 1, 0] c139v)
def r139x2 : RG X30 := fun call yl x s κ => X30.rec (motive := fun _ => MO X30) (fun m a b c d f g h i l n o p r t u w y z A B C D E F G H I J K L s κ => ldV b false 1 s (fun v0 s => nilC v0 s (fun v1 s => ptrK v1 2 s (fun v2 s => ldV v2 false 1 s (fun v3 s => κ (X30.mk m a b c d f g h i l n o p r t u w y z A v0 v1 v2 v3 F G H I J K L) s))))) x s κ
theorem r139x2ok : RgOk P false o139x2 T30 r139x2 := fun _ _ x _ _ => by cases x; kernel_rfl
def o139x3 : Array Oper := regO (pth [1, 0, 1, 1, 0, 0] c139v)
def r139x3 : RG X30 := fun call yl x s κ => X30.rec (motive := fun _ => MO X30) (fun m a b c d f g h i l n o p r t u w y z A B C D E F G H I J K L s κ => κ (X30.mk m a b c d (.o (.sl none 0 0)) g h i l n o p r t u w y z A B C D E F G H I J K L) s) x s κ
theorem r139x3ok : RgOk P false o139x3 T30 r139x3 := fun _ _ x _ _ => by cases x; kernel_rfl
def o139x4 : Array Oper := regO (pth [1, 1, 0] c139v)
def r139x4 : RG X30 := fun call yl x s κ => X30.rec (motive := fun _ => MO X30) (fun m a b c d f g h i l n o p r t u w y z A B C D E F G H I J K L s κ => ldV c false 1 s (fun v0 s => sliceC P 45 v0 none (some a) none s (fun v1 s => κ (X30.mk m a b c d f v1 h i l n o p r t u w y z A B C D E v0 a v1 I J K L) s))) x s κ
theorem r139x4ok : RgOk P false o139x4 T30 r139x4 := fun _ _ x _ _ => by cases x; kernel_rfl
def o139x5 : Array Oper := regO (pth [1, 1, 1, 0] c139v)
def r139x5 : RG X30 := fun call yl x s κ => X30.rec (motive := fun _ => MO X30) (fun m a b c d f g h i l n o p r t u w y z A B C D E F G H I J K L s κ => ldV c false 1 s (fun v0 s => sliceC P 45 v0 (some a) none none s (fun v1 s => stA c v1 1 s (fun _ s => κ (X30.mk m a b c d f g h i l n o p r t u w y z A B C D E F G H v0 a v1 L) s)))) x s κ
theorem r139x5ok : RgOk P false o139x5 T30 r139x5 := fun _ _ x _ _ => by cases x; kernel_rfl
def o139x6 : Array Oper := regO (pth [1, 1, 1, 1, 0] c139v)
def r139x6 : RG X30 := fun call yl x s κ => X30.rec (motive := fun _ => MO X30) (fun m a b c d f g h i l n o p r t u w y z A B C D E F G H I J K L s κ => κ (X30.mk m a b c d g g h i l n o p r t u w y z A B C D E F G H I J K g) s) x s κ
theorem r139x6ok : RgOk P false o139x6 T30 r139x6 := fun _ _ x _ _ => by cases x; kernel_rfl
def S139 : SF X30 := (seqS (regS P t0.fq r139x0) (seqS (seqS (regS P t0.fq r139x1) (seqS (regS P t0.fq r139x2) (condS (fun x => X30.rec (motive := fun _ => FV) (fun _ _ _ _ _ _ _ _ _ _ _ _ _ _ _ _ _ _ _ _ _ _ _ z _ _ _ _ _ _ _ => z) x) (seqS (regS P t0.fq r139x3) retS) skipS))) (seqS (regS P t0.fq r139x4) (seqS (regS P t0.fq r139x5) (seqS (regS P t0.fq r139x6) retS)))))
theorem S139ok : Sh P t0.fq T30 c139v S139 := by
  have e : c139v = (.seq (.region 0 o139x0 false) (.seq (.seq (.region 1 o139x1 true) (.seq (.region 2 o139x2 false) (.cond (.tmp 22) (.seq (.region 3 o139x3 false) .ret) .skip))) (.seq (.region 4 o139x4 false) (.seq (.region 5 o139x5 false) (.seq (.region 6 o139x6 false) .ret))))) := by kernel_rfl
  rw [e]
  exact (sh_seq (sh_reg r139x0ok) (sh_seq (sh_seq (sh_reg r139x1ok) (sh_seq (sh_reg r139x2ok) (sh_cond (fun x => by cases x; rfl) (sh_seq (sh_reg r139x3ok) sh_ret) sh_skip))) (sh_seq (sh_reg r139x4ok) (sh_seq (sh_reg r139x5ok) (sh_seq (sh_reg r139x6ok) sh_ret)))))
def A139 : List FV → Option X30 := fun l => match l with
  | [a, b, c] => some (X30.mk [] a b c .e .e .e .e .e .e .e .e .e .e .e .e .e .e .e .e .e .e .e .e .e .e .e .e .e .e .e)
  | _ => none
def L139 : LQ := shal P T30 S139 [.tmp 4] 4000 A139
def E139 : LA := evCall P t0.fa 4000 139
theorem G139 : Good P 139 L139 E139 := good_shal all0 (by kernel_rfl) (show FT P 139 = some (c139v, 30, [.tmp 4]) by kernel_rfl) S139ok (fun l x h => by
    unfold A139 at h
    split at h
    · cases h; exact ⟨by kernel_rfl, by kernel_rfl⟩
    · cases h) 4000
inductive X13 where
  | mk (m : List Nat) (a b c d f g h i l n o p r : FV)
def T13 (x : X13) : FF := X13.rec (motive := fun _ => FF) (fun m a b c d f g h i l n o p r => ⟨(.n a (.n b (.n g .e .e .e .e) (.n n .e .e .e .e) .e .e) (.n c (.n h .e .e .e .e) (.n o .e .e .e .e) .e .e) (.n d (.n i .e .e .e .e) (.n p .e .e .e .e) .e .e) (.n f (.n l .e .e .e .e) (.n r .e .e .e .e) .e .e)), 13, m⟩) x
def c140v : Code := bodyOf P 140
def o140x0 : Array Oper := regO (pth [0] c140v)
def r140x0 : RG X13 := fun call yl x s κ => X13.rec (motive := fun _ => MO X13) (fun m a b c d f g h i l n o p r s κ => κ (X13.mk m a b (.b false) d f g h i l n o p r) s) x s κ
theorem r140x0ok : RgOk P false o140x0 T13 r140x0 := fun _ _ x _ _ => by cases x; kernel_rfl
def o140x1 : Array Oper := regO (pth [1, 0] c140v)
def r140x1 : RG X13 := fun call yl x s κ => X13.rec (motive := fun _ => MO X13) (fun m a b c d f g h i l n o p r s κ => ldV a false 1 s (fun v0 s => nilC v0 s (fun v1 s => ptrK v1 2 s (fun v2 s => ldV v2 false 1 s (fun v3 s => notC v3 s (fun v4 s => bnk (fun κ1 => wantC v4 true (ldV b false 1 s (κ1)) (κ1 .e s)) (fun v5 s => bnk (fun κ1 => wantC v4 true (lenC v5 P 45 s (κ1)) (κ1 .e s)) (fun v6 s => bnk (fun κ1 => wantC v4 true (binC v6 (.i .i64 0) 3 .eql P s (κ1)) (κ1 .e s)) (fun v7 s => bnk (fun κ0 => condB v4 (κ0 v7 s) (κ0 (.b false) s)) (fun v8 s => κ (X13.mk m a b v8 v0 v1 v2 v3 v4 v4 v5 v6 v7 v8) s)))))))))) x s κ
theorem r140x1ok : RgOk P false o140x1 T13 r140x1 := fun _ _ x _ _ => by cases x; kernel_rfl
def S140 : SF X13 := (seqS (regS P t0.fq r140x0) (seqS (regS P t0.fq r140x1) retS))
theorem S140ok : Sh P t0.fq T13 c140v S140 := by
  have e : c140v = (.seq (.region 0 o140x0 false) (.seq (.region 1 o140x1 false) .ret)) := by kernel_rfl
  rw [e]
  exact (sh_seq (sh_reg r140x0ok) (sh_seq (sh_reg r140x1ok) sh_ret))
def A140 : List FV → Option X13 := fun l => match l with
  | [a, b] => some (X13.mk [] a b .e .e .e .e .e .e .e .e .e .e .e)
  | _ => none
def L140 : LQ := shal P T13 S140 [.tmp 2] 4000 A140
def E140 : LA := evCall P t0.fa 4000 140
theorem G140 : Good P 140 L140 E140 := good_shal all0 (by kernel_rfl) (show FT P 140 = some (c140v, 13, [.tmp 2]) by kernel_rfl) S140ok (fun l x h => by
    unfold A140 at h
    split at h
    · cases h; exact ⟨by kernel_rfl, by kernel_rfl⟩
    · cases h) 4000
def c160v : Code := bodyOf P 160
def o160x0 : Array Oper := regO (pth [0] c160v)
def r160x0 : RG X19 := fun call yl x s κ => X19.rec (motive := fun _ => MO X19) (fun m a b c d f g h i l n o p r t u w y z A s κ => ldV b false 1 s (fun v0 s => lenC v0 P 45 s (fun v1 s => binC v1 (.i .i64 1) 3 .sub P s (fun v2 s => κ (X19.mk m a b c v2 v0 v1 v2 i l n o p r t u w y z A) s)))) x s κ
theorem r160x0ok : RgOk P false o160x0 T19 r160x0 := fun _ _ x _ _ => by cases x; kernel_rfl
def o160x1 : Array Oper := regO (pth [1, 0, 0, 0, 0] c160v)
def r160x1 : RG X19 := fun call yl x s κ => X19.rec (motive := fun _ => MO X19) (fun m a b c d f g h i l n o p r t u w y z A s κ => binC d (.i .i64 0) 3 .geq P s (fun v0 s => κ (X19.mk m a b c d f g h d v0 n o p r t u w y z A) s)) x s κ
theorem r160x1ok : RgOk P false o160x1 T19 r160x1 := fun _ _ x _ _ => by cases x; kernel_rfl
def o160x2 : Array Oper := regO (pth [1, 0, 0, 1, 0, 0, 0] c160v)
def r160x2 : RG X19 := fun call yl x s κ => X19.rec (motive := fun _ => MO X19) (fun m a b c d f g h i l n o p r t u w y z A s κ => ldV b false 1 s (fun v0 s => natK d fun j => iaS v0 j 1 s (fun v1 s => ldV v1 false 1 s (fun v2 s => callV a [d, v2] call yl s (fun v3 s => notC v3 s (fun v4 s => κ (X19.mk m a b c d f g h i l n o a d v0 d v1 v2 v3 v4) s)))))) x s κ
theorem r160x2ok : RgOk P false o160x2 T19 r160x2 := fun _ _ x _ _ => by cases x; kernel_rfl
def o160x3 : Array Oper := regO (pth [1, 0, 0, 1, 1] c160v)
def r160x3 : RG X19 := fun call yl x s κ => X19.rec (motive := fun _ => MO X19) (fun m a b c d f g h i l n o p r t u w y z A s κ => binC d (.i .i64 1) 3 .sub P s (fun v0 s => κ (X19.mk m a b c v0 f g h i l d v0 p r t u w y z A) s)) x s κ
theorem r160x3ok : RgOk P false o160x3 T19 r160x3 := fun _ _ x _ _ => by cases x; kernel_rfl
def S160 : SF X19 := (seqS (regS P t0.fq r160x0) (blkS 0 (loopS (seqS (seqS (regS P t0.fq r160x1) (condS (fun x => X19.rec (motive := fun _ => FV) (fun _ _ _ _ _ _ _ _ _ z _ _ _ _ _ _ _ _ _ _ => z) x) skipS (exitS 0))) (seqS (blkS 1 (seqS (regS P t0.fq r160x2) (condS (fun x => X19.rec (motive := fun _ => FV) (fun _ _ _ _ _ _ _ _ _ _ _ _ _ _ _ _ _ _ _ z => z) x) retS skipS))) (regS P t0.fq r160x3))))))
theorem S160ok : Sh P t0.fq T19 c160v S160 := by
  have e : c160v = (.seq (.region 0 o160x0 false) (.block 0 (.loop (.seq (.seq (.region 1 o160x1 false) (.cond (.tmp 8) .skip (.exit 0))) (.seq (.block 1 (.seq (.region 3 o160x2 false) (.cond (.tmp 18) .ret .skip))) (.region 2 o160x3 false)))))) := by kernel_rfl
  rw [e]
  exact (sh_seq (sh_reg r160x0ok) (sh_blk 0 (sh_loop (sh_seq (sh_seq (sh_reg r160x1ok) (sh_cond (fun x => by cases x; rfl) sh_skip (sh_exit 0))) (sh_seq (sh_blk 1 (sh_seq (sh_reg r160x2ok) (sh_cond (fun x => by cases x; rfl) sh_ret sh_skip))) (sh_reg r160x3ok))))))
def A160 : List FV → Option X19 := fun l => match l with
  | [a, b] => some (X19.mk [] a b .e .e .e .e .e .e .e .e .e .e .e .e .e .e .e .e .e)
  | _ => none
def L160 : LQ := shal P T19 S160 [] 4000 A160
def E160 : LA := evCall P t0.fa 4000 160
theorem G160 : Good P 160 L160 E160 := good_shal all0 (by kernel_rfl) (show FT P 160 = some (c160v, 19, []) by kernel_rfl) S160ok (fun l x h => by
    unfold A160 at h
    split at h
    · cases h; exact ⟨by kernel_rfl, by kernel_rfl⟩
    · cases h) 4000
def t1 : LT := (.n 68 L68 E68 (.n 42 L42 E42 (.n 33 L33 E33 (.n 10 L10 E10 (.n 6 L6 E6 (.n 5 L5 E5 .e .e) .e) (.n 31 L31 E31 (.n 30 L30 E30 .e .e) .e)) (.n 39 L39 E39 (.n 35 L35 E35 (.n 34 L34 E34 .e .e) .e) (.n 41 L41 E41 .e .e))) (.n 54 L54 E54 (.n 46 L46 E46 (.n 44 L44 E44 (.n 43 L43 E43 .e .e) .e) (.n 49 L49 E49 .e .e)) (.n 62 L62 E62 (.n 61 L61 E61 (.n 55 L55 E55 .e .e) .e) (.n 63 L63 E63 .e .e)))) (.n 102 L102 E102 (.n 80 L80 E80 (.n 72 L72 E72 (.n 70 L70 E70 (.n 69 L69 E69 .e .e) .e) (.n 75 L75 E75 .e .e)) (.n 92 L92 E92 (.n 90 L90 E90 (.n 89 L89 E89 .e .e) .e) (.n 99 L99 E99 .e .e))) (.n 120 L120 E120 (.n 117 L117 E117 (.n 110 L110 E110 (.n 109 L109 E109 .e .e) .e) (.n 118 L118 E118 .e .e)) (.n 140 L140 E140 (.n 139 L139 E139 (.n 136 L136 E136 .e .e) .e) (.n 160 L160 E160 .e .e)))))
theorem all1 : t1.all (Good P) := ⟨G68, ⟨G42, ⟨G33, ⟨G10, ⟨G6, ⟨G5, trivial, trivial⟩, trivial⟩, ⟨G31, ⟨G30, trivial, trivial⟩, trivial⟩⟩, ⟨G39, ⟨G35, ⟨G34, trivial, trivial⟩, trivial⟩, ⟨G41, trivial, trivial⟩⟩⟩, ⟨G54, ⟨G46, ⟨G44, ⟨G43, trivial, trivial⟩, trivial⟩, ⟨G49, trivial, trivial⟩⟩, ⟨G62, ⟨G61, ⟨G55, trivial, trivial⟩, trivial⟩, ⟨G63, trivial, trivial⟩⟩⟩⟩, ⟨G102, ⟨G80, ⟨G72, ⟨G70, ⟨G69, trivial, trivial⟩, trivial⟩, ⟨G75, trivial, trivial⟩⟩, ⟨G92, ⟨G90, ⟨G89, trivial, trivial⟩, trivial⟩, ⟨G99, trivial, trivial⟩⟩⟩, ⟨G120, ⟨G117, ⟨G110, ⟨G109, trivial, trivial⟩, trivial⟩, ⟨G118, trivial, trivial⟩⟩, ⟨G140, ⟨G139, ⟨G136, trivial, trivial⟩, trivial⟩, ⟨G160, trivial, trivial⟩⟩⟩⟩⟩
end
end V
end Go.CE
