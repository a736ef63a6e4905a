/-
  Laws of functions by the functions of their slots, printed by a program of mine.
-/
import Derived.Test.YtkfceppdpdeppaaGreatDoorPkTzOne
set_option linter.unusedSectionVars false
set_option linter.constructorNameAsVariable false
set_option linter.unusedVariables false
set_option linter.unusedSimpArgs false
namespace Go.CE
namespace V
set_option maxRecDepth 100000
noncomputable section
variable [Sym] [SymOk]
def c20v : Code := bodyOf P 20
def o20x0 : Array Oper := regO (pth [0] c20v)
def r20x0 : RG X15 := fun call yl x s κ => X15.rec (motive := fun _ => MO X15) (fun m a b c d f g h i l n o p r t u s κ => bxV a 26 s (fun v0 s => allocC P 40 s (fun v1 s => κ (X15.mk m a b c v0 f g v1 i l n o p r t u) s))) x s κ
theorem r20x0ok : RgOk P false o20x0 T15 r20x0 := fun _ _ x _ _ => by cases x; kernel_rfl
def o20x1 : Array Oper := regO (pth [1, 0] c20v)
def r20x1 : RG X15 := fun call yl x s κ => X15.rec (motive := fun _ => MO X15) (fun m a b c d f g h i l n o p r t u s κ => (fun qv0 => (fun qv1 => sandS (fun s κ1 => ptrK d 1 s (κ1)) s (fun qv2 v3 s => sandS (fun s κ1 => ldV v3 false 1 s (κ1)) s (fun qv4 v5 s => sandS (fun s κ1 => ptrK d 5 s (κ1)) s (fun qv6 v7 s => sandS (fun s κ1 => ldV v7 false 1 s (κ1)) s (fun qv8 v9 s => sandS (fun s κ1 => call 46 [v9] s (κ1)) s (fun qv10 v11 s => sandS (fun s κ1 => buildC P 40 [(0, (.i .i64 13)), (1, b), (2, c), (3, v5), (18, v11)] s (κ1)) s (fun qv12 v13 s => sandS (fun s κ1 => stA h v13 62 s (κ1)) s (fun qv14 v15 s => V.iff (dynA [] [qv0, qv1, qv2, qv4, qv6, qv8, qv10, qv12, qv14] [[], [true], [true, true], [true, true, false], [true, true, true, true], [true, true, true, true, false], [true, true, true, true, false, false], [false, false, false, false, false, false, false], [false, false, false, false, false, false, false, false]]) (κ (X15.mk m a b c d f g h b c v3 v5 v7 v9 v11 v13) s))))))))) (qz s)) (qz s)) x s κ
theorem r20x1ok : RgOk P true o20x1 T15 r20x1 := fun _ _ x _ _ => by cases x; kernel_rfl
def S20 : SF X15 := (seqS (regS P t1.fq r20x0) (seqS (regS P t1.fq r20x1) retS))
theorem S20ok : Sh P t1.fq T15 c20v S20 := by
  have e : c20v = (.seq (.region 0 o20x0 false) (.seq (.region 1 o20x1 true) .ret)) := by kernel_rfl
  rw [e]
  exact (sh_seq (sh_reg r20x0ok) (sh_seq (sh_reg r20x1ok) sh_ret))
def A20 : List FV → Option X15 := fun l => match l with
  | [a, b, c] => some (X15.mk [] a b c .e .e .e .e .e .e .e .e .e .e .e .e)
  | _ => none
def L20 : LQ := shal P T15 S20 [.cell 6 40] 4000 A20
def E20 : LA := evCall P t1.fa 4000 20
theorem G20 : Good P 20 L20 E20 := good_shal all1 (by kernel_rfl) (show FT P 20 = some (c20v, 15, [.cell 6 40]) by kernel_rfl) S20ok (fun l x h => by
    unfold A20 at h
    split at h
    · cases h; exact ⟨by kernel_rfl, by kernel_rfl⟩
    · cases h) 4000
def c26v : Code := bodyOf P 26
def o26x0 : Array Oper := regO (pth [0] c26v)
def r26x0 : RG X9 := fun call yl x s κ => X9.rec (motive := fun _ => MO X9) (fun m a b c d f g h i l s κ => κ (X9.mk m a b c d (.b false) g h i l) s) x s κ
theorem r26x0ok : RgOk P false o26x0 T9 r26x0 := fun _ _ x _ _ => by cases x; kernel_rfl
def o26x1 : Array Oper := regO (pth [1, 0] c26v)
def r26x1 : RG X9 := fun call yl x s κ => X9.rec (motive := fun _ => MO X9) (fun m a b c d f g h i l s κ => call 61 [a, b] s (fun v0 s => binC v0 (.i .i64 0) 3 .geq P s (fun v1 s => κ (X9.mk m a b c d v1 a b v0 v1) s))) x s κ
theorem r26x1ok : RgOk P false o26x1 T9 r26x1 := fun _ _ x _ _ => by cases x; kernel_rfl
def S26 : SF X9 := (seqS (regS P t1.fq r26x0) (seqS (regS P t1.fq r26x1) retS))
theorem S26ok : Sh P t1.fq T9 c26v S26 := by
  have e : c26v = (.seq (.region 0 o26x0 false) (.seq (.region 1 o26x1 false) .ret)) := by kernel_rfl
  rw [e]
  exact (sh_seq (sh_reg r26x0ok) (sh_seq (sh_reg r26x1ok) sh_ret))
def A26 : List FV → Option X9 := fun l => match l with
  | [a, b] => some (X9.mk [] a b .e .e .e .e .e .e .e)
  | _ => none
def L26 : LQ := shal P T9 S26 [.tmp 4] 4000 A26
def E26 : LA := evCall P t1.fa 4000 26
theorem G26 : Good P 26 L26 E26 := good_shal all1 (by kernel_rfl) (show FT P 26 = some (c26v, 9, [.tmp 4]) by kernel_rfl) S26ok (fun l x h => by
    unfold A26 at h
    split at h
    · cases h; exact ⟨by kernel_rfl, by kernel_rfl⟩
    · cases h) 4000
inductive X31 where
  | mk (m : List Nat) (a b c d f g h i l n o p r t u w y z A B C D E F G H I J K L M : FV)
def T31 (x : X31) : FF := X31.rec (motive := fun _ => FF) (fun m a b c d f g h i l n o p r t u w y z A B C D E F G H I J K L M => ⟨(.n a (.n b (.n g (.n D .e .e .e .e) .e .e .e) (.n n (.n H .e .e .e .e) .e .e .e) (.n t (.n L .e .e .e .e) .e .e .e) (.n z .e .e .e .e)) (.n c (.n h (.n E .e .e .e .e) .e .e .e) (.n o (.n I .e .e .e .e) .e .e .e) (.n u (.n M .e .e .e .e) .e .e .e) (.n A .e .e .e .e)) (.n d (.n i (.n F .e .e .e .e) .e .e .e) (.n p (.n J .e .e .e .e) .e .e .e) (.n w .e .e .e .e) (.n B .e .e .e .e)) (.n f (.n l (.n G .e .e .e .e) .e .e .e) (.n r (.n K .e .e .e .e) .e .e .e) (.n y .e .e .e .e) (.n C .e .e .e .e))), 31, m⟩) x
def c29v : Code := bodyOf P 29
def o29x0 : Array Oper := regO (pth [0] c29v)
def r29x0 : RG X31 := fun call yl x s κ => X31.rec (motive := fun _ => MO X31) (fun m a b c d f g h i l n o p r t u w y z A B C D E F G H I J K L M s κ => bxV a 26 s (fun v0 s => allocC P 26 s (fun v1 s => κ (X31.mk m a v0 v1 d f g h i l n o p r t u w y z A B C D E F G H I J K L M) s))) x s κ
theorem r29x0ok : RgOk P false o29x0 T31 r29x0 := fun _ _ x _ _ => by cases x; kernel_rfl
def o29x1 : Array Oper := regO (pth [1, 0] c29v)
def r29x1 : RG X31 := fun call yl x s κ => X31.rec (motive := fun _ => MO X31) (fun m a b c d f g h i l n o p r t u w y z A B C D E F G H I J K L M s κ => sandS (fun s κ1 => ptrK b 5 s (κ1)) s (fun qv0 v1 s => sandS (fun s κ1 => ldV v1 false 1 s (κ1)) s (fun qv2 v3 s => sandS (fun s κ1 => call 46 [v3] s (κ1)) s (fun qv4 v5 s => sandS (fun s κ1 => ptrK b 6 s (κ1)) s (fun qv6 v7 s => sandS (fun s κ1 => ldV v7 false 1 s (κ1)) s (fun qv8 v9 s => sandS (fun s κ1 => call 62 [v9] s (κ1)) s (fun qv10 v11 s => sandS (fun s κ1 => ptrK b 5 s (κ1)) s (fun qv12 v13 s => sandS (fun s κ1 => stA v13 v5 1 s (κ1)) s (fun qv14 v15 s => sandS (fun s κ1 => ptrK b 6 s (κ1)) s (fun qv16 v17 s => sandS (fun s κ1 => stA v17 v11 1 s (κ1)) s (fun qv18 v19 s => V.iff (dynA [] [qv0, qv2, qv4, qv6, qv8, qv10, qv12, qv14, qv16, qv18] [[], [false], [false, false], [true, true, true], [true, true, true, false], [false, false, false, false, false], [false, false, false, false, false, true], [false, false, false, false, false, false, false], [false, false, false, false, false, false, false, false], [false, false, false, false, false, false, false, false, false]]) (κ (X31.mk m a b c d f v1 v3 v5 v7 v9 v11 v13 v17 t u w y z A B C D E F G H I J K L M) s)))))))))))) x s κ
theorem r29x1ok : RgOk P true o29x1 T31 r29x1 := fun _ _ x _ _ => by cases x; kernel_rfl
def o29x2 : Array Oper := regO (pth [1, 1, 0, 0] c29v)
def r29x2 : RG X31 := fun call yl x s κ => X31.rec (motive := fun _ => MO X31) (fun m a b c d f g h i l n o p r t u w y z A B C D E F G H I J K L M s κ => ptrK b 6 s (fun v0 s => ldV v0 false 1 s (fun v1 s => lenC v1 P 24 s (fun v2 s => κ (X31.mk m a b c d f g h i l n o p r v0 v1 v2 (.i .i64 0) z A B C D E F G H I J K L M) s)))) x s κ
theorem r29x2ok : RgOk P false o29x2 T31 r29x2 := fun _ _ x _ _ => by cases x; kernel_rfl
def o29x3 : Array Oper := regO (pth [1, 1, 0, 1, 0, 0, 0] c29v)
def r29x3 : RG X31 := fun call yl x s κ => X31.rec (motive := fun _ => MO X31) (fun m a b c d f g h i l n o p r t u w y z A B C D E F G H I J K L M s κ => binC y w 3 .lss P s (fun v0 s => κ (X31.mk m a b c d f g h i l n o p r t u w y v0 A B C D E F G H I J K L M) s)) x s κ
theorem r29x3ok : RgOk P false o29x3 T31 r29x3 := fun _ _ x _ _ => by cases x; kernel_rfl
def o29x4 : Array Oper := regO (pth [1, 1, 0, 1, 0, 0, 1, 1, 0, 0, 0] c29v)
def r29x4 : RG X31 := fun call yl x s κ => X31.rec (motive := fun _ => MO X31) (fun m a b c d f g h i l n o p r t u w y z A B C D E F G H I J K L M s κ => natK y fun j => iaS u j 36 s (fun v0 s => ldV v0 true 36 s (fun v1 s => allocC P 47 s (fun v2 s => stA v2 v1 36 s (fun _ s => κ (X31.mk m a b c y v2 g h i l n o p r t u w y z y v0 v1 D E F G H I J K L M) s))))) x s κ
theorem r29x4ok : RgOk P false o29x4 T31 r29x4 := fun _ _ x _ _ => by cases x; kernel_rfl
def o29x5 : Array Oper := regO (pth [1, 1, 0, 1, 0, 0, 1, 1, 0, 0, 1] c29v)
def r29x5 : RG X31 := fun call yl x s κ => X31.rec (motive := fun _ => MO X31) (fun m a b c d f g h i l n o p r t u w y z A B C D E F G H I J K L M s κ => sandS (fun s κ1 => ptrK b 6 s (κ1)) s (fun qv0 v1 s => sandS (fun s κ1 => ldV v1 false 1 s (κ1)) s (fun qv2 v3 s => (fun qv4 => sandS (fun s κ1 => ptrK f 3 s (κ1)) s (fun qv5 v6 s => sandS (fun s κ1 => ldV v6 false 1 s (κ1)) s (fun qv7 v8 s => sandS (fun s κ1 => call 30 [v8] s (κ1)) s (fun qv9 v10 s => sandS (fun s κ1 => natK d fun j => iaS v3 j 36 s (κ1)) s (fun qv11 v12 s => sandS (fun s κ1 => ptrK v12 3 s (κ1)) s (fun qv13 v14 s => sandS (fun s κ1 => stA v14 v10 1 s (κ1)) s (fun qv15 v16 s => V.iff (dynA [] [qv0, qv2, qv4, qv5, qv7, qv9, qv11, qv13, qv15] [[], [false], [true, true], [true, true, true], [true, true, true, false], [true, true, true, false, false], [false, false, false, false, false, false], [false, false, false, false, false, false, false], [false, false, false, false, false, false, false, false]]) (κ (X31.mk m a b c d f g h i l n o p r t u w y z A B C v1 v3 d v6 v8 v10 v12 v14 L M) s)))))))) (qz s)))) x s κ
theorem r29x5ok : RgOk P true o29x5 T31 r29x5 := fun _ _ x _ _ => by cases x; kernel_rfl
def o29x6 : Array Oper := regO (pth [1, 1, 0, 1, 0, 0, 1, 1, 1] c29v)
def r29x6 : RG X31 := fun call yl x s κ => X31.rec (motive := fun _ => MO X31) (fun m a b c d f g h i l n o p r t u w y z A B C D E F G H I J K L M s κ => binC y (.i .i64 1) 3 .add P s (fun v0 s => κ (X31.mk m a b c d f g h i l n o p r t u w v0 z A B C D E F G H I J K v0 M) s)) x s κ
theorem r29x6ok : RgOk P false o29x6 T31 r29x6 := fun _ _ x _ _ => by cases x; kernel_rfl
def o29x7 : Array Oper := regO (pth [1, 1, 1, 0] c29v)
def r29x7 : RG X31 := fun call yl x s κ => X31.rec (motive := fun _ => MO X31) (fun m a b c d f g h i l n o p r t u w y z A B C D E F G H I J K L M s κ => ldV b true 7 s (fun v0 s => stA c v0 7 s (fun _ s => κ (X31.mk m a b c d f g h i l n o p r t u w y z A B C D E F G H I J K L v0) s))) x s κ
theorem r29x7ok : RgOk P false o29x7 T31 r29x7 := fun _ _ x _ _ => by cases x; kernel_rfl
def S29 : SF X31 := (seqS (regS P t1.fq r29x0) (seqS (regS P t1.fq r29x1) (seqS (seqS (regS P t1.fq r29x2) (blkS 0 (loopS (seqS (regS P t1.fq r29x3) (seqS (condS (fun x => X31.rec (motive := fun _ => FV) (fun _ _ _ _ _ _ _ _ _ _ _ _ _ _ _ _ _ _ z _ _ _ _ _ _ _ _ _ _ _ _ _ => z) x) skipS (exitS 0)) (seqS (blkS 1 (seqS (regS P t1.fq r29x4) (regS P t1.fq r29x5))) (regS P t1.fq r29x6))))))) (seqS (regS P t1.fq r29x7) retS))))
theorem S29ok : Sh P t1.fq T31 c29v S29 := by
  have e : c29v = (.seq (.region 0 o29x0 false) (.seq (.region 1 o29x1 true) (.seq (.seq (.region 2 o29x2 false) (.block 0 (.loop (.seq (.region 3 o29x3 false) (.seq (.cond (.tmp 17) .skip (.exit 0)) (.seq (.block 1 (.seq (.region 4 o29x4 false) (.region 5 o29x5 true))) (.region 6 o29x6 false))))))) (.seq (.region 7 o29x7 false) .ret)))) := by kernel_rfl
  rw [e]
  exact (sh_seq (sh_reg r29x0ok) (sh_seq (sh_reg r29x1ok) (sh_seq (sh_seq (sh_reg r29x2ok) (sh_blk 0 (sh_loop (sh_seq (sh_reg r29x3ok) (sh_seq (sh_cond (fun x => by cases x; rfl) sh_skip (sh_exit 0)) (sh_seq (sh_blk 1 (sh_seq (sh_reg r29x4ok) (sh_reg r29x5ok))) (sh_reg r29x6ok))))))) (sh_seq (sh_reg r29x7ok) sh_ret))))
def A29 : List FV → Option X31 := fun l => match l with
  | [a] => some (X31.mk [] a .e .e .e .e .e .e .e .e .e .e .e .e .e .e .e .e .e .e .e .e .e .e .e .e .e .e .e .e .e .e)
  | _ => none
def L29 : LQ := shal P T31 S29 [.cell 2 26] 4000 A29
def E29 : LA := evCall P t1.fa 4000 29
theorem G29 : Good P 29 L29 E29 := good_shal all1 (by kernel_rfl) (show FT P 29 = some (c29v, 31, [.cell 2 26]) by kernel_rfl) S29ok (fun l x h => by
    unfold A29 at h
    split at h
    · cases h; exact ⟨by kernel_rfl, by kernel_rfl⟩
    · cases h) 4000
inductive X4 where
  | mk (m : List Nat) (a b c d : FV)
def T4 (x : X4) : FF := X4.rec (motive := fun _ => FF) (fun m a b c d => ⟨(.n a (.n b .e .e .e .e) (.n c .e .e .e .e) (.n d .e .e .e .e) .e), 4, m⟩) x
def c32v : Code := bodyOf P 32
def o32x0 : Array Oper := regO (pth [0] c32v)
def r32x0 : RG X4 := fun call yl x s κ => X4.rec (motive := fun _ => MO X4) (fun m a b c d s κ => bxV a 26 s (fun v0 s => κ (X4.mk m a v0 (.o .nf) d) s)) x s κ
theorem r32x0ok : RgOk P false o32x0 T4 r32x0 := fun _ _ x _ _ => by cases x; kernel_rfl
def o32x1 : Array Oper := regO (pth [1, 0] c32v)
def r32x1 : RG X4 := fun call yl x s κ => X4.rec (motive := fun _ => MO X4) (fun m a b c d s κ => makeFuncC 63 [] [b] s (fun v0 s => κ (X4.mk m a b v0 v0) s)) x s κ
theorem r32x1ok : RgOk P false o32x1 T4 r32x1 := fun _ _ x _ _ => by cases x; kernel_rfl
def S32 : SF X4 := (seqS (regS P t1.fq r32x0) (seqS (regS P t1.fq r32x1) retS))
theorem S32ok : Sh P t1.fq T4 c32v S32 := by
  have e : c32v = (.seq (.region 0 o32x0 false) (.seq (.region 1 o32x1 false) .ret)) := by kernel_rfl
  rw [e]
  exact (sh_seq (sh_reg r32x0ok) (sh_seq (sh_reg r32x1ok) sh_ret))
def A32 : List FV → Option X4 := fun l => match l with
  | [a] => some (X4.mk [] a .e .e .e)
  | _ => none
def L32 : LQ := shal P T4 S32 [.tmp 2] 4000 A32
def E32 : LA := evCall P t1.fa 4000 32
theorem G32 : Good P 32 L32 E32 := good_shal all1 (by kernel_rfl) (show FT P 32 = some (c32v, 4, [.tmp 2]) by kernel_rfl) S32ok (fun l x h => by
    unfold A32 at h
    split at h
    · cases h; exact ⟨by kernel_rfl, by kernel_rfl⟩
    · cases h) 4000
inductive X42 where
  | mk (m : List Nat) (a b c d f g h i l n o p r t u w y z A B C D E F G H I J K L M N O Q R S T U W Y Z a1 : FV)
def T42 (x : X42) : FF := X42.rec (motive := fun _ => FF) (fun m a b c d f g h i l n o p r t u w y z A B C D E F G H I J K L M N O Q R S T U W Y Z a1 => ⟨(.n a (.n b (.n g (.n D .e .e .e .e) (.n U .e .e .e .e) .e .e) (.n n (.n H .e .e .e .e) (.n a1 .e .e .e .e) .e .e) (.n t (.n L .e .e .e .e) .e .e .e) (.n z (.n Q .e .e .e .e) .e .e .e)) (.n c (.n h (.n E .e .e .e .e) (.n W .e .e .e .e) .e .e) (.n o (.n I .e .e .e .e) .e .e .e) (.n u (.n M .e .e .e .e) .e .e .e) (.n A (.n R .e .e .e .e) .e .e .e)) (.n d (.n i (.n F .e .e .e .e) (.n Y .e .e .e .e) .e .e) (.n p (.n J .e .e .e .e) .e .e .e) (.n w (.n N .e .e .e .e) .e .e .e) (.n B (.n S .e .e .e .e) .e .e .e)) (.n f (.n l (.n G .e .e .e .e) (.n Z .e .e .e .e) .e .e) (.n r (.n K .e .e .e .e) .e .e .e) (.n y (.n O .e .e .e .e) .e .e .e) (.n C (.n T .e .e .e .e) .e .e .e))), 42, m⟩) x
def c38v : Code := bodyOf P 38
def o38x0 : Array Oper := regO (pth [0] c38v)
def r38x0 : RG X42 := fun call yl x s κ => X42.rec (motive := fun _ => MO X42) (fun m a b c d f g h i l n o p r t u w y z A B C D E F G H I J K L M N O Q R S T U W Y Z a1 s κ => allocC P 38 s (fun v0 s => κ (X42.mk m a b v0 d f g h i l n o p r t u w y z A B C D E F G H I J K L M N O Q R S T U W Y Z a1) s)) x s κ
theorem r38x0ok : RgOk P false o38x0 T42 r38x0 := fun _ _ x _ _ => by cases x; kernel_rfl
def o38x1 : Array Oper := regO (pth [1, 0] c38v)
def r38x1 : RG X42 := fun call yl x s κ => X42.rec (motive := fun _ => MO X42) (fun m a b c d f g h i l n o p r t u w y z A B C D E F G H I J K L M N O Q R S T U W Y Z a1 s κ => buildC P 118 [(0, (.i .u32 1779033703)), (1, (.i .u32 3144134277)), (2, (.i .u32 1013904242)), (3, (.i .u32 2773480762)), (4, (.i .u32 1359893119)), (5, (.i .u32 2600822924)), (6, (.i .u32 528734635)), (7, (.i .u32 1541459225))] s (fun v0 s => allocC P 118 s (fun v1 s => stA v1 v0 8 s (fun _ s => κ (X42.mk m a b c v1 f g h i v0 n o p r t u w y z A B C D E F G H I J K L M N O Q R S T U W Y Z a1) s)))) x s κ
theorem r38x1ok : RgOk P false o38x1 T42 r38x1 := fun _ _ x _ _ => by cases x; kernel_rfl
def o38x2 : Array Oper := regO (pth [1, 1, 0] c38v)
def r38x2 : RG X42 := fun call yl x s κ => X42.rec (motive := fun _ => MO X42) (fun m a b c d f g h i l n o p r t u w y z A B C D E F G H I J K L M N O Q R S T U W Y Z a1 s κ => call 68 [a] s (fun v0 s => κ (X42.mk m a b c d v0 g h i l a v0 p r t u w y z A B C D E F G H I J K L M N O Q R S T U W Y Z a1) s)) x s κ
theorem r38x2ok : RgOk P false o38x2 T42 r38x2 := fun _ _ x _ _ => by cases x; kernel_rfl
def o38x3 : Array Oper := regO (pth [1, 1, 1, 0, 0] c38v)
def r38x3 : RG X42 := fun call yl x s κ => X42.rec (motive := fun _ => MO X42) (fun m a b c d f g h i l n o p r t u w y z A B C D E F G H I J K L M N O Q R S T U W Y Z a1 s κ => κ (X42.mk m a b c d f (.i .i64 0) h i l n o p r t u w y z A B C D E F G H I J K L M N O Q R S T U W Y Z a1) s) x s κ
theorem r38x3ok : RgOk P false o38x3 T42 r38x3 := fun _ _ x _ _ => by cases x; kernel_rfl
def o38x4 : Array Oper := regO (pth [1, 1, 1, 0, 1, 0, 0, 0, 0] c38v)
def r38x4 : RG X42 := fun call yl x s κ => X42.rec (motive := fun _ => MO X42) (fun m a b c d f g h i l n o p r t u w y z A B C D E F G H I J K L M N O Q R S T U W Y Z a1 s κ => lenC f P 45 s (fun v0 s => binC g v0 3 .lss P s (fun v1 s => κ (X42.mk m a b c d f g h i l n o g f v0 v1 w y z A B C D E F G H I J K L M N O Q R S T U W Y Z a1) s))) x s κ
theorem r38x4ok : RgOk P false o38x4 T42 r38x4 := fun _ _ x _ _ => by cases x; kernel_rfl
def o38x5 : Array Oper := regO (pth [1, 1, 1, 0, 1, 0, 0, 1, 0, 0] c38v)
def r38x5 : RG X42 := fun call yl x s κ => X42.rec (motive := fun _ => MO X42) (fun m a b c d f g h i l n o p r t u w y z A B C D E F G H I J K L M N O Q R S T U W Y Z a1 s κ => sandS (fun s κ1 => ldV d true 8 s (κ1)) s (fun qv0 v1 s => (fun qv2 => (fun qv3 => (fun qv4 => sandS (fun s κ1 => binC g (.i .i64 64) 3 .add P s (κ1)) s (fun qv5 v6 s => sandS (fun s κ1 => sliceC P 45 f (some g) (some v6) none s (κ1)) s (fun qv7 v8 s => sandS (fun s κ1 => call 69 [v1, v8] s (κ1)) s (fun qv9 v10 s => sandS (fun s κ1 => stA d v10 8 s (κ1)) s (fun qv11 v12 s => V.iff (dynA [] [qv0, qv2, qv3, qv4, qv5, qv7, qv9, qv11] [[], [true], [true, true], [true, true, true], [true, true, true, false], [true, false, false, false, false], [false, false, false, false, false, false], [false, false, false, false, false, false, false]]) (κ (X42.mk m a b c d f g h i l n o p r t u w y v1 f g g v6 v8 v10 G H I J K L M N O Q R S T U W Y Z a1) s)))))) (qz s)) (qz s)) (qz s))) x s κ
theorem r38x5ok : RgOk P true o38x5 T42 r38x5 := fun _ _ x _ _ => by cases x; kernel_rfl
def o38x6 : Array Oper := regO (pth [1, 1, 1, 0, 1, 0, 0, 1, 1] c38v)
def r38x6 : RG X42 := fun call yl x s κ => X42.rec (motive := fun _ => MO X42) (fun m a b c d f g h i l n o p r t u w y z A B C D E F G H I J K L M N O Q R S T U W Y Z a1 s κ => binC g (.i .i64 64) 3 .add P s (fun v0 s => κ (X42.mk m a b c d f v0 h i l n o p r t u g v0 z A B C D E F G H I J K L M N O Q R S T U W Y Z a1) s)) x s κ
theorem r38x6ok : RgOk P false o38x6 T42 r38x6 := fun _ _ x _ _ => by cases x; kernel_rfl
def o38x7 : Array Oper := regO (pth [1, 1, 1, 1, 0] c38v)
def r38x7 : RG X42 := fun call yl x s κ => X42.rec (motive := fun _ => MO X42) (fun m a b c d f g h i l n o p r t u w y z A B C D E F G H I J K L M N O Q R S T U W Y Z a1 s κ => buildC P 38 [] s (fun v0 s => allocC P 38 s (fun v1 s => stA v1 v0 32 s (fun _ s => κ (X42.mk m a b c d f g v1 i l n o p r t u w y z A B C D E F v0 H I J K L M N O Q R S T U W Y Z a1) s)))) x s κ
theorem r38x7ok : RgOk P false o38x7 T42 r38x7 := fun _ _ x _ _ => by cases x; kernel_rfl
def o38x8 : Array Oper := regO (pth [1, 1, 1, 1, 1, 0, 0] c38v)
def r38x8 : RG X42 := fun call yl x s κ => X42.rec (motive := fun _ => MO X42) (fun m a b c d f g h i l n o p r t u w y z A B C D E F G H I J K L M N O Q R S T U W Y Z a1 s κ => κ (X42.mk m a b c d f g h (.i .i64 0) l n o p r t u w y z A B C D E F G H I J K L M N O Q R S T U W Y Z a1) s) x s κ
theorem r38x8ok : RgOk P false o38x8 T42 r38x8 := fun _ _ x _ _ => by cases x; kernel_rfl
def o38x9 : Array Oper := regO (pth [1, 1, 1, 1, 1, 0, 1, 0, 0, 0, 0] c38v)
def r38x9 : RG X42 := fun call yl x s κ => X42.rec (motive := fun _ => MO X42) (fun m a b c d f g h i l n o p r t u w y z A B C D E F G H I J K L M N O Q R S T U W Y Z a1 s κ => binC i (.i .i64 32) 3 .lss P s (fun v0 s => κ (X42.mk m a b c d f g h i l n o p r t u w y z A B C D E F G i v0 J K L M N O Q R S T U W Y Z a1) s)) x s κ
theorem r38x9ok : RgOk P false o38x9 T42 r38x9 := fun _ _ x _ _ => by cases x; kernel_rfl
def o38x10 : Array Oper := regO (pth [1, 1, 1, 1, 1, 0, 1, 0, 0, 1, 0, 0] c38v)
def r38x10 : RG X42 := fun call yl x s κ => X42.rec (motive := fun _ => MO X42) (fun m a b c d f g h i l n o p r t u w y z A B C D E F G H I J K L M N O Q R S T U W Y Z a1 s κ => binC i (.i .i64 4) 3 .quo P s (fun v0 s => natK v0 fun j => iaP d 8 j 1 s (fun v1 s => ldV v1 false 1 s (fun v2 s => binC i (.i .i64 4) 3 .rem P s (fun v3 s => binC (.i .i64 8) v3 3 .mul P s (fun v4 s => binC (.i .i64 24) v4 3 .sub P s (fun v5 s => binC v2 v5 117 .shr P s (fun v6 s => cvV v6 .u8 s (fun v7 s => natK i fun j => iaP h 32 j 1 s (fun v8 s => stA v8 v7 1 s (fun _ s => κ (X42.mk m a b c d f g h i l n o p r t u w y z A B C D E F G H I J K i i v0 v1 v2 i v3 v4 v5 v6 v7 v8 a1) s))))))))))) x s κ
theorem r38x10ok : RgOk P false o38x10 T42 r38x10 := fun _ _ x _ _ => by cases x; kernel_rfl
def o38x11 : Array Oper := regO (pth [1, 1, 1, 1, 1, 0, 1, 0, 0, 1, 1] c38v)
def r38x11 : RG X42 := fun call yl x s κ => X42.rec (motive := fun _ => MO X42) (fun m a b c d f g h i l n o p r t u w y z A B C D E F G H I J K L M N O Q R S T U W Y Z a1 s κ => binC i (.i .i64 1) 3 .add P s (fun v0 s => κ (X42.mk m a b c d f g h v0 l n o p r t u w y z A B C D E F G H I i v0 L M N O Q R S T U W Y Z a1) s)) x s κ
theorem r38x11ok : RgOk P false o38x11 T42 r38x11 := fun _ _ x _ _ => by cases x; kernel_rfl
def o38x12 : Array Oper := regO (pth [1, 1, 1, 1, 1, 1, 0] c38v)
def r38x12 : RG X42 := fun call yl x s κ => X42.rec (motive := fun _ => MO X42) (fun m a b c d f g h i l n o p r t u w y z A B C D E F G H I J K L M N O Q R S T U W Y Z a1 s κ => ldV h true 32 s (fun v0 s => stA c v0 32 s (fun _ s => κ (X42.mk m a b c d f g h i l n o p r t u w y z A B C D E F G H I J K L M N O Q R S T U W Y Z v0) s))) x s κ
theorem r38x12ok : RgOk P false o38x12 T42 r38x12 := fun _ _ x _ _ => by cases x; kernel_rfl
def S38 : SF X42 := (seqS (regS P t1.fq r38x0) (seqS (regS P t1.fq r38x1) (seqS (regS P t1.fq r38x2) (seqS (seqS (regS P t1.fq r38x3) (blkS 0 (loopS (seqS (seqS (regS P t1.fq r38x4) (condS (fun x => X42.rec (motive := fun _ => FV) (fun _ _ _ _ _ _ _ _ _ _ _ _ _ _ _ z _ _ _ _ _ _ _ _ _ _ _ _ _ _ _ _ _ _ _ _ _ _ _ _ _ _ _ => z) x) skipS (exitS 0))) (seqS (blkS 1 (regS P t1.fq r38x5)) (regS P t1.fq r38x6)))))) (seqS (regS P t1.fq r38x7) (seqS (seqS (regS P t1.fq r38x8) (blkS 2 (loopS (seqS (seqS (regS P t1.fq r38x9) (condS (fun x => X42.rec (motive := fun _ => FV) (fun _ _ _ _ _ _ _ _ _ _ _ _ _ _ _ _ _ _ _ _ _ _ _ _ _ _ _ z _ _ _ _ _ _ _ _ _ _ _ _ _ _ _ => z) x) skipS (exitS 2))) (seqS (blkS 3 (regS P t1.fq r38x10)) (regS P t1.fq r38x11)))))) (seqS (regS P t1.fq r38x12) retS)))))))
theorem S38ok : Sh P t1.fq T42 c38v S38 := by
  have e : c38v = (.seq (.region 0 o38x0 false) (.seq (.region 1 o38x1 false) (.seq (.region 2 o38x2 false) (.seq (.seq (.region 3 o38x3 false) (.block 0 (.loop (.seq (.seq (.region 4 o38x4 false) (.cond (.tmp 14) .skip (.exit 0))) (.seq (.block 1 (.region 6 o38x5 true)) (.region 5 o38x6 false)))))) (.seq (.region 7 o38x7 false) (.seq (.seq (.region 8 o38x8 false) (.block 2 (.loop (.seq (.seq (.region 9 o38x9 false) (.cond (.tmp 26) .skip (.exit 2))) (.seq (.block 3 (.region 11 o38x10 false)) (.region 10 o38x11 false)))))) (.seq (.region 12 o38x12 false) .ret))))))) := by kernel_rfl
  rw [e]
  exact (sh_seq (sh_reg r38x0ok) (sh_seq (sh_reg r38x1ok) (sh_seq (sh_reg r38x2ok) (sh_seq (sh_seq (sh_reg r38x3ok) (sh_blk 0 (sh_loop (sh_seq (sh_seq (sh_reg r38x4ok) (sh_cond (fun x => by cases x; rfl) sh_skip (sh_exit 0))) (sh_seq (sh_blk 1 (sh_reg r38x5ok)) (sh_reg r38x6ok)))))) (sh_seq (sh_reg r38x7ok) (sh_seq (sh_seq (sh_reg r38x8ok) (sh_blk 2 (sh_loop (sh_seq (sh_seq (sh_reg r38x9ok) (sh_cond (fun x => by cases x; rfl) sh_skip (sh_exit 2))) (sh_seq (sh_blk 3 (sh_reg r38x10ok)) (sh_reg r38x11ok)))))) (sh_seq (sh_reg r38x12ok) sh_ret)))))))
def A38 : List FV → Option X42 := fun l => match l with
  | [a] => some (X42.mk [] a .e .e .e .e .e .e .e .e .e .e .e .e .e .e .e .e .e .e .e .e .e .e .e .e .e .e .e .e .e .e .e .e .e .e .e .e .e .e .e .e .e)
  | _ => none
def L38 : LQ := shal P T42 S38 [.cell 2 38] 4000 A38
def E38 : LA := evCall P t1.fa 4000 38
theorem G38 : Good P 38 L38 E38 := good_shal all1 (by kernel_rfl) (show FT P 38 = some (c38v, 42, [.cell 2 38]) by kernel_rfl) S38ok (fun l x h => by
    unfold A38 at h
    split at h
    · cases h; exact ⟨by kernel_rfl, by kernel_rfl⟩
    · cases h) 4000
def c40v : Code := bodyOf P 40
def o40x0 : Array Oper := regO (pth [0] c40v)
def r40x0 : RG X9 := fun call yl x s κ => X9.rec (motive := fun _ => MO X9) (fun m a b c d f g h i l s κ => κ (X9.mk m a b c d (.b false) g h i l) s) x s κ
theorem r40x0ok : RgOk P false o40x0 T9 r40x0 := fun _ _ x _ _ => by cases x; kernel_rfl
def o40x1 : Array Oper := regO (pth [1, 0] c40v)
def r40x1 : RG X9 := fun call yl x s κ => X9.rec (motive := fun _ => MO X9) (fun m a b c d f g h i l s κ => call 70 [a, b] s (fun v0 s => binC v0 (.i .i64 0) 3 .geq P s (fun v1 s => κ (X9.mk m a b c d v1 a b v0 v1) s))) x s κ
theorem r40x1ok : RgOk P false o40x1 T9 r40x1 := fun _ _ x _ _ => by cases x; kernel_rfl
def S40 : SF X9 := (seqS (regS P t1.fq r40x0) (seqS (regS P t1.fq r40x1) retS))
theorem S40ok : Sh P t1.fq T9 c40v S40 := by
  have e : c40v = (.seq (.region 0 o40x0 false) (.seq (.region 1 o40x1 false) .ret)) := by kernel_rfl
  rw [e]
  exact (sh_seq (sh_reg r40x0ok) (sh_seq (sh_reg r40x1ok) sh_ret))
def A40 : List FV → Option X9 := fun l => match l with
  | [a, b] => some (X9.mk [] a b .e .e .e .e .e .e .e)
  | _ => none
def L40 : LQ := shal P T9 S40 [.tmp 4] 4000 A40
def E40 : LA := evCall P t1.fa 4000 40
theorem G40 : Good P 40 L40 E40 := good_shal all1 (by kernel_rfl) (show FT P 40 = some (c40v, 9, [.tmp 4]) by kernel_rfl) S40ok (fun l x h => by
    unfold A40 at h
    split at h
    · cases h; exact ⟨by kernel_rfl, by kernel_rfl⟩
    · cases h) 4000
def c53v : Code := bodyOf P 53
def o53x0 : Array Oper := regO (pth [0] c53v)
def r53x0 : RG X30 := fun call yl x s κ => X30.rec (motive := fun _ => MO X30) (fun m a b c d f g h i l n o p r t u w y z A B C D E F G H I J K L s κ => nilC a s (fun v0 s => ptrK v0 0 s (fun v1 s => ldV v1 false 1 s (fun v2 s => nilC v2 s (fun v3 s => ptrK v3 29 s (fun v4 s => ldV v4 false 1 s (fun v5 s => lenC v5 P 23 s (fun v6 s => call 49 [a, v6, (.i .i64 4)] s (fun v7 s => κ (X30.mk m a b c d a a v0 v1 v2 v3 v4 v5 v6 v7 u w y z A B C D E F G H I J K L) s))))))))) x s κ
theorem r53x0ok : RgOk P false o53x0 T30 r53x0 := fun _ _ x _ _ => by cases x; kernel_rfl
def o53x1 : Array Oper := regO (pth [1, 0] c53v)
def r53x1 : RG X30 := fun call yl x s κ => X30.rec (motive := fun _ => MO X30) (fun m a b c d f g h i l n o p r t u w y z A B C D E F G H I J K L s κ => nilC a s (fun v0 s => ptrK v0 0 s (fun v1 s => ldV v1 false 1 s (fun v2 s => nilC v2 s (fun v3 s => ptrK v3 29 s (fun v4 s => ldV v4 false 1 s (fun v5 s => lenC v5 P 23 s (fun v6 s => κ (X30.mk m a b c d f g h i l n o p r t a v0 v1 v2 v3 v4 v5 v6 (.i .i64 0) F G H I J K L) s)))))))) x s κ
theorem r53x1ok : RgOk P false o53x1 T30 r53x1 := fun _ _ x _ _ => by cases x; kernel_rfl
def o53x2 : Array Oper := regO (pth [1, 1, 0, 0, 0] c53v)
def r53x2 : RG X30 := fun call yl x s κ => X30.rec (motive := fun _ => MO X30) (fun m a b c d f g h i l n o p r t u w y z A B C D E F G H I J K L s κ => binC E D 3 .lss P s (fun v0 s => κ (X30.mk m a b c d f g h i l n o p r t u w y z A B C D E v0 G H I J K L) s)) x s κ
theorem r53x2ok : RgOk P false o53x2 T30 r53x2 := fun _ _ x _ _ => by cases x; kernel_rfl
def o53x3 : Array Oper := regO (pth [1, 1, 0, 0, 1, 1, 0, 0, 0] c53v)
def r53x3 : RG X30 := fun call yl x s κ => X30.rec (motive := fun _ => MO X30) (fun m a b c d f g h i l n o p r t u w y z A B C D E F G H I J K L s κ => natK E fun j => iaS C j 1 s (fun v0 s => ldV v0 false 1 s (fun v1 s => κ (X30.mk m a b c v1 f g h i l n o p r t u w y z A B C D E F v0 v1 I J K L) s))) x s κ
theorem r53x3ok : RgOk P false o53x3 T30 r53x3 := fun _ _ x _ _ => by cases x; kernel_rfl
def o53x4 : Array Oper := regO (pth [1, 1, 0, 0, 1, 1, 0, 0, 1] c53v)
def r53x4 : RG X30 := fun call yl x s κ => X30.rec (motive := fun _ => MO X30) (fun m a b c d f g h i l n o p r t u w y z A B C D E F G H I J K L s κ => call 49 [a, d, (.i .i64 1)] s (fun v0 s => κ (X30.mk m a b c d f g h i l n o p r t u w y z A B C D E F G H a d v0 L) s)) x s κ
theorem r53x4ok : RgOk P false o53x4 T30 r53x4 := fun _ _ x _ _ => by cases x; kernel_rfl
def o53x5 : Array Oper := regO (pth [1, 1, 0, 0, 1, 1, 1] c53v)
def r53x5 : RG X30 := fun call yl x s κ => X30.rec (motive := fun _ => MO X30) (fun m a b c d f g h i l n o p r t u w y z A B C D E F G H I J K L s κ => binC E (.i .i64 1) 3 .add P s (fun v0 s => κ (X30.mk m a b c d f g h i l n o p r t u w y z A B C D v0 F G H I J K v0) s)) x s κ
theorem r53x5ok : RgOk P false o53x5 T30 r53x5 := fun _ _ x _ _ => by cases x; kernel_rfl
def S53 : SF X30 := (seqS (regS P t1.fq r53x0) (seqS (regS P t1.fq r53x1) (blkS 0 (loopS (seqS (regS P t1.fq r53x2) (seqS (condS (fun x => X30.rec (motive := fun _ => FV) (fun _ _ _ _ _ _ _ _ _ _ _ _ _ _ _ _ _ _ _ _ _ _ _ _ z _ _ _ _ _ _ => z) x) skipS (exitS 0)) (seqS (blkS 1 (seqS (regS P t1.fq r53x3) (regS P t1.fq r53x4))) (regS P t1.fq r53x5))))))))
theorem S53ok : Sh P t1.fq T30 c53v S53 := by
  have e : c53v = (.seq (.region 0 o53x0 false) (.seq (.region 1 o53x1 false) (.block 0 (.loop (.seq (.region 2 o53x2 false) (.seq (.cond (.tmp 23) .skip (.exit 0)) (.seq (.block 1 (.seq (.region 3 o53x3 false) (.region 4 o53x4 false))) (.region 5 o53x5 false)))))))) := by kernel_rfl
  rw [e]
  exact (sh_seq (sh_reg r53x0ok) (sh_seq (sh_reg r53x1ok) (sh_blk 0 (sh_loop (sh_seq (sh_reg r53x2ok) (sh_seq (sh_cond (fun x => by cases x; rfl) sh_skip (sh_exit 0)) (sh_seq (sh_blk 1 (sh_seq (sh_reg r53x3ok) (sh_reg r53x4ok))) (sh_reg r53x5ok))))))))
def A53 : List FV → Option X30 := fun l => match l with
  | [a] => some (X30.mk [] a .e .e .e .e .e .e .e .e .e .e .e .e .e .e .e .e .e .e .e .e .e .e .e .e .e .e .e .e .e)
  | _ => none
def L53 : LQ := shal P T30 S53 [] 4000 A53
def E53 : LA := evCall P t1.fa 4000 53
theorem G53 : Good P 53 L53 E53 := good_shal all1 (by kernel_rfl) (show FT P 53 = some (c53v, 30, []) by kernel_rfl) S53ok (fun l x h => by
    unfold A53 at h
    split at h
    · cases h; exact ⟨by kernel_rfl, by kernel_rfl⟩
    · cases h) 4000
def c57v : Code := bodyOf P 57
def o57x0 : Array Oper := regO (pth [0] c57v)
def r57x0 : RG X23 := fun call yl x s κ => X23.rec (motive := fun _ => MO X23) (fun m a b c d f g h i l n o p r t u w y z A B C D E s κ => bxV a 47 s (fun v0 s => κ (X23.mk m a v0 (.o (.sl none 0 0)) d f g h i l n o p r t u w y z A B C D E) s)) x s κ
theorem r57x0ok : RgOk P false o57x0 T23 r57x0 := fun _ _ x _ _ => by cases x; kernel_rfl
def o57x1 : Array Oper := regO (pth [1, 0] c57v)
def r57x1 : RG X23 := fun call yl x s κ => X23.rec (motive := fun _ => MO X23) (fun m a b c d f g h i l n o p r t u w y z A B C D E s κ => makeSliceC P 45 (.i .i64 0) (.i .i64 24) s (fun v0 s => κ (X23.mk m a b c v0 f g v0 i l n o p r t u w y z A B C D E) s)) x s κ
theorem r57x1ok : RgOk P false o57x1 T23 r57x1 := fun _ _ x _ _ => by cases x; kernel_rfl
def o57x2 : Array Oper := regO (pth [1, 1, 0, 0] c57v)
def r57x2 : RG X23 := fun call yl x s κ => X23.rec (motive := fun _ => MO X23) (fun m a b c d f g h i l n o p r t u w y z A B C D E s κ => ptrK b 0 s (fun v0 s => ldV v0 false 1 s (fun v1 s => ptrK b 1 s (fun v2 s => ldV v2 false 1 s (fun v3 s => ptrK b 2 s (fun v4 s => ldV v4 false 1 s (fun v5 s => buildC P 75 [(0, v1), (1, v3), (2, v5)] s (fun v6 s => κ (X23.mk m a b c d f g h v0 v1 v2 v3 v4 v5 v6 (.i .i64 0) w y z A B C D E) s)))))))) x s κ
theorem r57x2ok : RgOk P false o57x2 T23 r57x2 := fun _ _ x _ _ => by cases x; kernel_rfl
def o57x3 : Array Oper := regO (pth [1, 1, 0, 1, 0, 0, 0] c57v)
def r57x3 : RG X23 := fun call yl x s κ => X23.rec (motive := fun _ => MO X23) (fun m a b c d f g h i l n o p r t u w y z A B C D E s κ => binC u (.i .i64 3) 3 .lss P s (fun v0 s => κ (X23.mk m a b c d f g h i l n o p r t u v0 y z A B C D E) s)) x s κ
theorem r57x3ok : RgOk P false o57x3 T23 r57x3 := fun _ _ x _ _ => by cases x; kernel_rfl
def o57x4 : Array Oper := regO (pth [1, 1, 0, 1, 0, 0, 1, 1, 0, 0, 0] c57v)
def r57x4 : RG X23 := fun call yl x s κ => X23.rec (motive := fun _ => MO X23) (fun m a b c d f g h i l n o p r t u w y z A B C D E s κ => natK u fun j => V.iff (Nat.ble (Nat.succ j) 3) (prV t false (Nat.mul j 1) 1 s (fun v0 s => κ (X23.mk m a b c d f v0 h i l n o p r t u w v0 z A B C D E) s))) x s κ
theorem r57x4ok : RgOk P false o57x4 T23 r57x4 := fun _ _ x _ _ => by cases x; kernel_rfl
def o57x5 : Array Oper := regO (pth [1, 1, 0, 1, 0, 0, 1, 1, 0, 0, 1] c57v)
def r57x5 : RG X23 := fun call yl x s κ => X23.rec (motive := fun _ => MO X23) (fun m a b c d f g h i l n o p r t u w y z A B C D E s κ => call 80 [g] s (fun v0 s => appendC P 45 45 d v0 s (fun v1 s => κ (X23.mk m a b c v1 f g h i l n o p r t u w y d g v0 v1 D E) s))) x s κ
theorem r57x5ok : RgOk P false o57x5 T23 r57x5 := fun _ _ x _ _ => by cases x; kernel_rfl
def o57x6 : Array Oper := regO (pth [1, 1, 0, 1, 0, 0, 1, 1, 1] c57v)
def r57x6 : RG X23 := fun call yl x s κ => X23.rec (motive := fun _ => MO X23) (fun m a b c d f g h i l n o p r t u w y z A B C D E s κ => binC u (.i .i64 1) 3 .add P s (fun v0 s => κ (X23.mk m a b c d f g h i l n o p r t v0 w y z A B C v0 E) s)) x s κ
theorem r57x6ok : RgOk P false o57x6 T23 r57x6 := fun _ _ x _ _ => by cases x; kernel_rfl
def o57x7 : Array Oper := regO (pth [1, 1, 1, 0] c57v)
def r57x7 : RG X23 := fun call yl x s κ => X23.rec (motive := fun _ => MO X23) (fun m a b c d f g h i l n o p r t u w y z A B C D E s κ => κ (X23.mk m a b d d f g h i l n o p r t u w y z A B C D d) s) x s κ
theorem r57x7ok : RgOk P false o57x7 T23 r57x7 := fun _ _ x _ _ => by cases x; kernel_rfl
def S57 : SF X23 := (seqS (regS P t1.fq r57x0) (seqS (regS P t1.fq r57x1) (seqS (seqS (regS P t1.fq r57x2) (blkS 0 (loopS (seqS (regS P t1.fq r57x3) (seqS (condS (fun x => X23.rec (motive := fun _ => FV) (fun _ _ _ _ _ _ _ _ _ _ _ _ _ _ _ _ z _ _ _ _ _ _ _ => z) x) skipS (exitS 0)) (seqS (blkS 1 (seqS (regS P t1.fq r57x4) (regS P t1.fq r57x5))) (regS P t1.fq r57x6))))))) (seqS (regS P t1.fq r57x7) retS))))
theorem S57ok : Sh P t1.fq T23 c57v S57 := by
  have e : c57v = (.seq (.region 0 o57x0 false) (.seq (.region 1 o57x1 false) (.seq (.seq (.region 2 o57x2 false) (.block 0 (.loop (.seq (.region 3 o57x3 false) (.seq (.cond (.tmp 15) .skip (.exit 0)) (.seq (.block 1 (.seq (.region 4 o57x4 false) (.region 5 o57x5 false))) (.region 6 o57x6 false))))))) (.seq (.region 7 o57x7 false) .ret)))) := by kernel_rfl
  rw [e]
  exact (sh_seq (sh_reg r57x0ok) (sh_seq (sh_reg r57x1ok) (sh_seq (sh_seq (sh_reg r57x2ok) (sh_blk 0 (sh_loop (sh_seq (sh_reg r57x3ok) (sh_seq (sh_cond (fun x => by cases x; rfl) sh_skip (sh_exit 0)) (sh_seq (sh_blk 1 (sh_seq (sh_reg r57x4ok) (sh_reg r57x5ok))) (sh_reg r57x6ok))))))) (sh_seq (sh_reg r57x7ok) sh_ret))))
def A57 : List FV → Option X23 := fun l => match l with
  | [a] => some (X23.mk [] a .e .e .e .e .e .e .e .e .e .e .e .e .e .e .e .e .e .e .e .e .e .e)
  | _ => none
def L57 : LQ := shal P T23 S57 [.tmp 2] 4000 A57
def E57 : LA := evCall P t1.fa 4000 57
theorem G57 : Good P 57 L57 E57 := good_shal all1 (by kernel_rfl) (show FT P 57 = some (c57v, 23, [.tmp 2]) by kernel_rfl) S57ok (fun l x h => by
    unfold A57 at h
    split at h
    · cases h; exact ⟨by kernel_rfl, by kernel_rfl⟩
    · cases h) 4000
inductive X27 where
  | mk (m : List Nat) (a b c d f g h i l n o p r t u w y z A B C D E F G H I : FV)
def T27 (x : X27) : FF := X27.rec (motive := fun _ => FF) (fun m a b c d f g h i l n o p r t u w y z A B C D E F G H I => ⟨(.n a (.n b (.n g (.n D .e .e .e .e) .e .e .e) (.n n (.n H .e .e .e .e) .e .e .e) (.n t .e .e .e .e) (.n z .e .e .e .e)) (.n c (.n h (.n E .e .e .e .e) .e .e .e) (.n o (.n I .e .e .e .e) .e .e .e) (.n u .e .e .e .e) (.n A .e .e .e .e)) (.n d (.n i (.n F .e .e .e .e) .e .e .e) (.n p .e .e .e .e) (.n w .e .e .e .e) (.n B .e .e .e .e)) (.n f (.n l (.n G .e .e .e .e) .e .e .e) (.n r .e .e .e .e) (.n y .e .e .e .e) (.n C .e .e .e .e))), 27, m⟩) x
def c64v : Code := bodyOf P 64
def o64x0 : Array Oper := regO (pth [0] c64v)
def r64x0 : RG X27 := fun call yl x s κ => X27.rec (motive := fun _ => MO X27) (fun m a b c d f g h i l n o p r t u w y z A B C D E F G H I s κ => κ (X27.mk m a b c d (.b false) g h i l n o p r t u w y z A B C D E F G H I) s) x s κ
theorem r64x0ok : RgOk P false o64x0 T27 r64x0 := fun _ _ x _ _ => by cases x; kernel_rfl
def o64x1 : Array Oper := regO (pth [1, 0, 0] c64v)
def r64x1 : RG X27 := fun call yl x s κ => X27.rec (motive := fun _ => MO X27) (fun m a b c d f g h i l n o p r t u w y z A B C D E F G H I s κ => lenC a P 31 s (fun v0 s => lenC b P 31 s (fun v1 s => binC v0 v1 3 .neq P s (fun v2 s => κ (X27.mk m a b c d f g a v0 b v1 v2 p r t u w y z A B C D E F G H I) s)))) x s κ
theorem r64x1ok : RgOk P false o64x1 T27 r64x1 := fun _ _ x _ _ => by cases x; kernel_rfl
def o64x2 : Array Oper := regO (pth [1, 0, 1, 0, 0] c64v)
def r64x2 : RG X27 := fun call yl x s κ => X27.rec (motive := fun _ => MO X27) (fun m a b c d f g h i l n o p r t u w y z A B C D E F G H I s κ => κ (X27.mk m a b c d (.b false) g h i l n o p r t u w y z A B C D E F G H I) s) x s κ
theorem r64x2ok : RgOk P false o64x2 T27 r64x2 := fun _ _ x _ _ => by cases x; kernel_rfl
def o64x3 : Array Oper := regO (pth [1, 1, 0, 0] c64v)
def r64x3 : RG X27 := fun call yl x s κ => X27.rec (motive := fun _ => MO X27) (fun m a b c d f g h i l n o p r t u w y z A B C D E F G H I s κ => κ (X27.mk m a b c d f (.i .i64 0) h i l n o p r t u w y z A B C D E F G H I) s) x s κ
theorem r64x3ok : RgOk P false o64x3 T27 r64x3 := fun _ _ x _ _ => by cases x; kernel_rfl
def o64x4 : Array Oper := regO (pth [1, 1, 0, 1, 0, 0, 0, 0] c64v)
def r64x4 : RG X27 := fun call yl x s κ => X27.rec (motive := fun _ => MO X27) (fun m a b c d f g h i l n o p r t u w y z A B C D E F G H I s κ => lenC a P 31 s (fun v0 s => binC g v0 3 .lss P s (fun v1 s => κ (X27.mk m a b c d f g h i l n o g a v0 v1 w y z A B C D E F G H I) s))) x s κ
theorem r64x4ok : RgOk P false o64x4 T27 r64x4 := fun _ _ x _ _ => by cases x; kernel_rfl
def o64x5 : Array Oper := regO (pth [1, 1, 0, 1, 0, 0, 1, 0, 0, 0] c64v)
def r64x5 : RG X27 := fun call yl x s κ => X27.rec (motive := fun _ => MO X27) (fun m a b c d f g h i l n o p r t u w y z A B C D E F G H I s κ => (fun qv0 => (fun qv1 => sandS (fun s κ1 => natK g fun j => iaS a j 8 s (κ1)) s (fun qv2 v3 s => sandS (fun s κ1 => ldV v3 true 8 s (κ1)) s (fun qv4 v5 s => (fun qv6 => (fun qv7 => sandS (fun s κ1 => natK g fun j => iaS b j 8 s (κ1)) s (fun qv8 v9 s => sandS (fun s κ1 => ldV v9 true 8 s (κ1)) s (fun qv10 v11 s => sandS (fun s κ1 => call 83 [v5, v11] s (κ1)) s (fun qv12 v13 s => sandS (fun s κ1 => notC v13 s (κ1)) s (fun qv14 v15 s => V.iff (dynA [] [qv0, qv1, qv2, qv4, qv6, qv7, qv8, qv10, qv12, qv14] [[], [true], [false, false], [false, false, false], [true, true, true, true], [true, true, true, true, true], [true, true, true, true, false, false], [true, true, true, true, false, false, false], [false, false, false, false, false, false, false, false], [false, false, false, false, false, false, false, false, false]]) (κ (X27.mk m a b c d f g h i l n o p r t u w y a g v3 v5 b g v9 v11 v13 v15) s)))))) (qz s)) (qz s)))) (qz s)) (qz s)) x s κ
theorem r64x5ok : RgOk P true o64x5 T27 r64x5 := fun _ _ x _ _ => by cases x; kernel_rfl
def o64x6 : Array Oper := regO (pth [1, 1, 0, 1, 0, 0, 1, 0, 0, 1, 0, 0] c64v)
def r64x6 : RG X27 := fun call yl x s κ => X27.rec (motive := fun _ => MO X27) (fun m a b c d f g h i l n o p r t u w y z A B C D E F G H I s κ => κ (X27.mk m a b c d (.b false) g h i l n o p r t u w y z A B C D E F G H I) s) x s κ
theorem r64x6ok : RgOk P false o64x6 T27 r64x6 := fun _ _ x _ _ => by cases x; kernel_rfl
def o64x7 : Array Oper := regO (pth [1, 1, 0, 1, 0, 0, 1, 1] c64v)
def r64x7 : RG X27 := fun call yl x s κ => X27.rec (motive := fun _ => MO X27) (fun m a b c d f g h i l n o p r t u w y z A B C D E F G H I s κ => binC g (.i .i64 1) 3 .add P s (fun v0 s => κ (X27.mk m a b c d f v0 h i l n o p r t u g v0 z A B C D E F G H I) s)) x s κ
theorem r64x7ok : RgOk P false o64x7 T27 r64x7 := fun _ _ x _ _ => by cases x; kernel_rfl
def o64x8 : Array Oper := regO (pth [1, 1, 1, 0] c64v)
def r64x8 : RG X27 := fun call yl x s κ => X27.rec (motive := fun _ => MO X27) (fun m a b c d f g h i l n o p r t u w y z A B C D E F G H I s κ => κ (X27.mk m a b c d (.b true) g h i l n o p r t u w y z A B C D E F G H I) s) x s κ
theorem r64x8ok : RgOk P false o64x8 T27 r64x8 := fun _ _ x _ _ => by cases x; kernel_rfl
def S64 : SF X27 := (seqS (regS P t1.fq r64x0) (seqS (seqS (regS P t1.fq r64x1) (condS (fun x => X27.rec (motive := fun _ => FV) (fun _ _ _ _ _ _ _ _ _ _ _ z _ _ _ _ _ _ _ _ _ _ _ _ _ _ _ _ => z) x) (seqS (regS P t1.fq r64x2) retS) skipS)) (seqS (seqS (regS P t1.fq r64x3) (blkS 0 (loopS (seqS (seqS (regS P t1.fq r64x4) (condS (fun x => X27.rec (motive := fun _ => FV) (fun _ _ _ _ _ _ _ _ _ _ _ _ _ _ _ z _ _ _ _ _ _ _ _ _ _ _ _ => z) x) skipS (exitS 0))) (seqS (blkS 1 (seqS (regS P t1.fq r64x5) (condS (fun x => X27.rec (motive := fun _ => FV) (fun _ _ _ _ _ _ _ _ _ _ _ _ _ _ _ _ _ _ _ _ _ _ _ _ _ _ _ z => z) x) (seqS (regS P t1.fq r64x6) retS) skipS))) (regS P t1.fq r64x7)))))) (seqS (regS P t1.fq r64x8) retS))))
theorem S64ok : Sh P t1.fq T27 c64v S64 := by
  have e : c64v = (.seq (.region 0 o64x0 false) (.seq (.seq (.region 1 o64x1 false) (.cond (.tmp 10) (.seq (.region 2 o64x2 false) .ret) .skip)) (.seq (.seq (.region 3 o64x3 false) (.block 0 (.loop (.seq (.seq (.region 4 o64x4 false) (.cond (.tmp 14) .skip (.exit 0))) (.seq (.block 1 (.seq (.region 6 o64x5 true) (.cond (.tmp 26) (.seq (.region 7 o64x6 false) .ret) .skip))) (.region 5 o64x7 false)))))) (.seq (.region 8 o64x8 false) .ret)))) := by kernel_rfl
  rw [e]
  exact (sh_seq (sh_reg r64x0ok) (sh_seq (sh_seq (sh_reg r64x1ok) (sh_cond (fun x => by cases x; rfl) (sh_seq (sh_reg r64x2ok) sh_ret) sh_skip)) (sh_seq (sh_seq (sh_reg r64x3ok) (sh_blk 0 (sh_loop (sh_seq (sh_seq (sh_reg r64x4ok) (sh_cond (fun x => by cases x; rfl) sh_skip (sh_exit 0))) (sh_seq (sh_blk 1 (sh_seq (sh_reg r64x5ok) (sh_cond (fun x => by cases x; rfl) (sh_seq (sh_reg r64x6ok) sh_ret) sh_skip))) (sh_reg r64x7ok)))))) (sh_seq (sh_reg r64x8ok) sh_ret))))
def A64 : List FV → Option X27 := fun l => match l with
  | [a, b] => some (X27.mk [] a b .e .e .e .e .e .e .e .e .e .e .e .e .e .e .e .e .e .e .e .e .e .e .e .e .e)
  | _ => none
def L64 : LQ := shal P T27 S64 [.tmp 4] 4000 A64
def E64 : LA := evCall P t1.fa 4000 64
theorem G64 : Good P 64 L64 E64 := good_shal all1 (by kernel_rfl) (show FT P 64 = some (c64v, 27, [.tmp 4]) by kernel_rfl) S64ok (fun l x h => by
    unfold A64 at h
    split at h
    · cases h; exact ⟨by kernel_rfl, by kernel_rfl⟩
    · cases h) 4000
def c66v : Code := bodyOf P 66
def o66x0 : Array Oper := regO (pth [0] c66v)
def r66x0 : RG X21 := fun call yl x s κ => X21.rec (motive := fun _ => MO X21) (fun m a b c d f g h i l n o p r t u w y z A B C s κ => κ (X21.mk m a b c d (.b false) g h i l n o p r t u w y z A B C) s) x s κ
theorem r66x0ok : RgOk P false o66x0 T21 r66x0 := fun _ _ x _ _ => by cases x; kernel_rfl
def o66x1 : Array Oper := regO (pth [1, 0] c66v)
def r66x1 : RG X21 := fun call yl x s κ => X21.rec (motive := fun _ => MO X21) (fun m a b c d f g h i l n o p r t u w y z A B C s κ => call 89 [a] s (fun v0 s => κ (X21.mk m a b c d f v0 h a v0 n o p r t u w y z A B C) s)) x s κ
theorem r66x1ok : RgOk P false o66x1 T21 r66x1 := fun _ _ x _ _ => by cases x; kernel_rfl
def o66x2 : Array Oper := regO (pth [1, 1, 0, 0] c66v)
def r66x2 : RG X21 := fun call yl x s κ => X21.rec (motive := fun _ => MO X21) (fun m a b c d f g h i l n o p r t u w y z A B C s κ => κ (X21.mk m a b c d f g (.i .i64 0) i l n o p r t u w y z A B C) s) x s κ
theorem r66x2ok : RgOk P false o66x2 T21 r66x2 := fun _ _ x _ _ => by cases x; kernel_rfl
def o66x3 : Array Oper := regO (pth [1, 1, 0, 1, 0, 0, 0, 0] c66v)
def r66x3 : RG X21 := fun call yl x s κ => X21.rec (motive := fun _ => MO X21) (fun m a b c d f g h i l n o p r t u w y z A B C s κ => lenC g P 23 s (fun v0 s => binC h v0 3 .lss P s (fun v1 s => κ (X21.mk m a b c d f g h i l h g v0 v1 t u w y z A B C) s))) x s κ
theorem r66x3ok : RgOk P false o66x3 T21 r66x3 := fun _ _ x _ _ => by cases x; kernel_rfl
def o66x4 : Array Oper := regO (pth [1, 1, 0, 1, 0, 0, 1, 0, 0, 0] c66v)
def r66x4 : RG X21 := fun call yl x s κ => X21.rec (motive := fun _ => MO X21) (fun m a b c d f g h i l n o p r t u w y z A B C s κ => natK h fun j => iaS g j 1 s (fun v0 s => ldV v0 false 1 s (fun v1 s => binC v1 b 3 .eql P s (fun v2 s => κ (X21.mk m a b c d f g h i l n o p r t u g h v0 v1 b v2) s)))) x s κ
theorem r66x4ok : RgOk P false o66x4 T21 r66x4 := fun _ _ x _ _ => by cases x; kernel_rfl
def o66x5 : Array Oper := regO (pth [1, 1, 0, 1, 0, 0, 1, 0, 0, 1, 0, 0] c66v)
def r66x5 : RG X21 := fun call yl x s κ => X21.rec (motive := fun _ => MO X21) (fun m a b c d f g h i l n o p r t u w y z A B C s κ => κ (X21.mk m a b c d (.b true) g h i l n o p r t u w y z A B C) s) x s κ
theorem r66x5ok : RgOk P false o66x5 T21 r66x5 := fun _ _ x _ _ => by cases x; kernel_rfl
def o66x6 : Array Oper := regO (pth [1, 1, 0, 1, 0, 0, 1, 1] c66v)
def r66x6 : RG X21 := fun call yl x s κ => X21.rec (motive := fun _ => MO X21) (fun m a b c d f g h i l n o p r t u w y z A B C s κ => binC h (.i .i64 1) 3 .add P s (fun v0 s => κ (X21.mk m a b c d f g v0 i l n o p r h v0 w y z A B C) s)) x s κ
theorem r66x6ok : RgOk P false o66x6 T21 r66x6 := fun _ _ x _ _ => by cases x; kernel_rfl
def o66x7 : Array Oper := regO (pth [1, 1, 1, 0] c66v)
def r66x7 : RG X21 := fun call yl x s κ => X21.rec (motive := fun _ => MO X21) (fun m a b c d f g h i l n o p r t u w y z A B C s κ => κ (X21.mk m a b c d (.b false) g h i l n o p r t u w y z A B C) s) x s κ
theorem r66x7ok : RgOk P false o66x7 T21 r66x7 := fun _ _ x _ _ => by cases x; kernel_rfl
def S66 : SF X21 := (seqS (regS P t1.fq r66x0) (seqS (regS P t1.fq r66x1) (seqS (seqS (regS P t1.fq r66x2) (blkS 0 (loopS (seqS (seqS (regS P t1.fq r66x3) (condS (fun x => X21.rec (motive := fun _ => FV) (fun _ _ _ _ _ _ _ _ _ _ _ _ _ z _ _ _ _ _ _ _ _ => z) x) skipS (exitS 0))) (seqS (blkS 1 (seqS (regS P t1.fq r66x4) (condS (fun x => X21.rec (motive := fun _ => FV) (fun _ _ _ _ _ _ _ _ _ _ _ _ _ _ _ _ _ _ _ _ _ z => z) x) (seqS (regS P t1.fq r66x5) retS) skipS))) (regS P t1.fq r66x6)))))) (seqS (regS P t1.fq r66x7) retS))))
theorem S66ok : Sh P t1.fq T21 c66v S66 := by
  have e : c66v = (.seq (.region 0 o66x0 false) (.seq (.region 1 o66x1 false) (.seq (.seq (.region 2 o66x2 false) (.block 0 (.loop (.seq (.seq (.region 3 o66x3 false) (.cond (.tmp 12) .skip (.exit 0))) (.seq (.block 1 (.seq (.region 5 o66x4 false) (.cond (.tmp 20) (.seq (.region 6 o66x5 false) .ret) .skip))) (.region 4 o66x6 false)))))) (.seq (.region 7 o66x7 false) .ret)))) := by kernel_rfl
  rw [e]
  exact (sh_seq (sh_reg r66x0ok) (sh_seq (sh_reg r66x1ok) (sh_seq (sh_seq (sh_reg r66x2ok) (sh_blk 0 (sh_loop (sh_seq (sh_seq (sh_reg r66x3ok) (sh_cond (fun x => by cases x; rfl) sh_skip (sh_exit 0))) (sh_seq (sh_blk 1 (sh_seq (sh_reg r66x4ok) (sh_cond (fun x => by cases x; rfl) (sh_seq (sh_reg r66x5ok) sh_ret) sh_skip))) (sh_reg r66x6ok)))))) (sh_seq (sh_reg r66x7ok) sh_ret))))
def A66 : List FV → Option X21 := fun l => match l with
  | [a, b] => some (X21.mk [] a b .e .e .e .e .e .e .e .e .e .e .e .e .e .e .e .e .e .e .e)
  | _ => none
def L66 : LQ := shal P T21 S66 [.tmp 4] 4000 A66
def E66 : LA := evCall P t1.fa 4000 66
theorem G66 : Good P 66 L66 E66 := good_shal all1 (by kernel_rfl) (show FT P 66 = some (c66v, 21, [.tmp 4]) by kernel_rfl) S66ok (fun l x h => by
    unfold A66 at h
    split at h
    · cases h; exact ⟨by kernel_rfl, by kernel_rfl⟩
    · cases h) 4000
inductive X78 where
  | mk (m : List Nat) (a b c d f g h i l n o p r t u w y z A B C D E F G H I J K L M N O Q R S T U W Y Z a1 b1 c1 d1 f1 g1 h1 i1 l1 n1 o1 p1 r1 t1 u1 w1 y1 z1 A1 B1 C1 D1 E1 F1 G1 H1 I1 J1 K1 L1 M1 N1 O1 Q1 R1 S1 T1 : FV)
def T78 (x : X78) : FF := X78.rec (motive := fun _ => FF) (fun m a b c d f g h i l n o p r t u w y z A B C D E F G H I J K L M N O Q R S T U W Y Z a1 b1 c1 d1 f1 g1 h1 i1 l1 n1 o1 p1 r1 t1 u1 w1 y1 z1 A1 B1 C1 D1 E1 F1 G1 H1 I1 J1 K1 L1 M1 N1 O1 Q1 R1 S1 T1 => ⟨(.n a (.n b (.n g (.n D .e .e .e .e) (.n U .e .e .e .e) (.n r1 .e .e .e .e) (.n K1 .e .e .e .e)) (.n n (.n H .e .e .e .e) (.n a1 .e .e .e .e) (.n y1 .e .e .e .e) (.n O1 .e .e .e .e)) (.n t (.n L .e .e .e .e) (.n f1 .e .e .e .e) (.n C1 .e .e .e .e) (.n T1 .e .e .e .e)) (.n z (.n Q .e .e .e .e) (.n l1 .e .e .e .e) (.n G1 .e .e .e .e) .e)) (.n c (.n h (.n E .e .e .e .e) (.n W .e .e .e .e) (.n t1 .e .e .e .e) (.n L1 .e .e .e .e)) (.n o (.n I .e .e .e .e) (.n b1 .e .e .e .e) (.n z1 .e .e .e .e) (.n Q1 .e .e .e .e)) (.n u (.n M .e .e .e .e) (.n g1 .e .e .e .e) (.n D1 .e .e .e .e) .e) (.n A (.n R .e .e .e .e) (.n n1 .e .e .e .e) (.n H1 .e .e .e .e) .e)) (.n d (.n i (.n F .e .e .e .e) (.n Y .e .e .e .e) (.n u1 .e .e .e .e) (.n M1 .e .e .e .e)) (.n p (.n J .e .e .e .e) (.n c1 .e .e .e .e) (.n A1 .e .e .e .e) (.n R1 .e .e .e .e)) (.n w (.n N .e .e .e .e) (.n h1 .e .e .e .e) (.n E1 .e .e .e .e) .e) (.n B (.n S .e .e .e .e) (.n o1 .e .e .e .e) (.n I1 .e .e .e .e) .e)) (.n f (.n l (.n G .e .e .e .e) (.n Z .e .e .e .e) (.n w1 .e .e .e .e) (.n N1 .e .e .e .e)) (.n r (.n K .e .e .e .e) (.n d1 .e .e .e .e) (.n B1 .e .e .e .e) (.n S1 .e .e .e .e)) (.n y (.n O .e .e .e .e) (.n i1 .e .e .e .e) (.n F1 .e .e .e .e) .e) (.n C (.n T .e .e .e .e) (.n p1 .e .e .e .e) (.n J1 .e .e .e .e) .e))), 78, m⟩) x
def c73v : Code := bodyOf P 73
def o73x0 : Array Oper := regO (pth [0] c73v)
def r73x0 : RG X78 := fun call yl x s κ => X78.rec (motive := fun _ => MO X78) (fun m a b c d f g h i l n o p r t u w y z A B C D E F G H I J K L M N O Q R S T U W Y Z a1 b1 c1 d1 f1 g1 h1 i1 l1 n1 o1 p1 r1 t1 u1 w1 y1 z1 A1 B1 C1 D1 E1 F1 G1 H1 I1 J1 K1 L1 M1 N1 O1 Q1 R1 S1 T1 s κ => bxV a 40 s (fun v0 s => κ (X78.mk m a v0 (.b false) d f g h i l n o p r t u w y z A B C D E F G H I J K L M N O Q R S T U W Y Z a1 b1 c1 d1 f1 g1 h1 i1 l1 n1 o1 p1 r1 t1 u1 w1 y1 z1 A1 B1 C1 D1 E1 F1 G1 H1 I1 J1 K1 L1 M1 N1 O1 Q1 R1 S1 T1) s)) x s κ
theorem r73x0ok : RgOk P false o73x0 T78 r73x0 := fun _ _ x _ _ => by cases x; kernel_rfl
def o73x1 : Array Oper := regO (pth [1, 0] c73v)
def r73x1 : RG X78 := fun call yl x s κ => X78.rec (motive := fun _ => MO X78) (fun m a b c d f g h i l n o p r t u w y z A B C D E F G H I J K L M N O Q R S T U W Y Z a1 b1 c1 d1 f1 g1 h1 i1 l1 n1 o1 p1 r1 t1 u1 w1 y1 z1 A1 B1 C1 D1 E1 F1 G1 H1 I1 J1 K1 L1 M1 N1 O1 Q1 R1 S1 T1 s κ => ptrK b 0 s (fun v0 s => ldV v0 false 1 s (fun v1 s => binC v1 (.i .i64 8) 3 .eql P s (fun v2 s => bnk (fun κ1 => wantC v2 true (ptrK b 17 s (κ1)) (κ1 .e s)) (fun v3 s => bnk (fun κ1 => wantC v2 true (ldV v3 true 7 s (κ1)) (κ1 .e s)) (fun v4 s => bnk (fun κ1 => wantC v2 true (call 75 [v4] s (κ1)) (κ1 .e s)) (fun v5 s => bnk (fun κ0 => condB v2 (κ0 v5 s) (κ0 (.b false) s)) (fun v6 s => κ (X78.mk m a b c v6 f g h i l v0 v1 v2 v2 v3 v4 v5 v6 z A B C D E F G H I J K L M N O Q R S T U W Y Z a1 b1 c1 d1 f1 g1 h1 i1 l1 n1 o1 p1 r1 t1 u1 w1 y1 z1 A1 B1 C1 D1 E1 F1 G1 H1 I1 J1 K1 L1 M1 N1 O1 Q1 R1 S1 T1) s)))))))) x s κ
theorem r73x1ok : RgOk P false o73x1 T78 r73x1 := fun _ _ x _ _ => by cases x; kernel_rfl
def o73x2 : Array Oper := regO (pth [1, 1, 0, 0] c73v)
def r73x2 : RG X78 := fun call yl x s κ => X78.rec (motive := fun _ => MO X78) (fun m a b c d f g h i l n o p r t u w y z A B C D E F G H I J K L M N O Q R S T U W Y Z a1 b1 c1 d1 f1 g1 h1 i1 l1 n1 o1 p1 r1 t1 u1 w1 y1 z1 A1 B1 C1 D1 E1 F1 G1 H1 I1 J1 K1 L1 M1 N1 O1 Q1 R1 S1 T1 s κ => call 41 [b] s (fun v0 s => κ (X78.mk m a b c d f g h i l n o p r t u w y v0 (.i .i64 0) B C D E F G H I J K L M N O Q R S T U W Y Z a1 b1 c1 d1 f1 g1 h1 i1 l1 n1 o1 p1 r1 t1 u1 w1 y1 z1 A1 B1 C1 D1 E1 F1 G1 H1 I1 J1 K1 L1 M1 N1 O1 Q1 R1 S1 T1) s)) x s κ
theorem r73x2ok : RgOk P false o73x2 T78 r73x2 := fun _ _ x _ _ => by cases x; kernel_rfl
def o73x3 : Array Oper := regO (pth [1, 1, 0, 1, 0, 0, 0] c73v)
def r73x3 : RG X78 := fun call yl x s κ => X78.rec (motive := fun _ => MO X78) (fun m a b c d f g h i l n o p r t u w y z A B C D E F G H I J K L M N O Q R S T U W Y Z a1 b1 c1 d1 f1 g1 h1 i1 l1 n1 o1 p1 r1 t1 u1 w1 y1 z1 A1 B1 C1 D1 E1 F1 G1 H1 I1 J1 K1 L1 M1 N1 O1 Q1 R1 S1 T1 s κ => binC A (.i .i64 17) 3 .lss P s (fun v0 s => κ (X78.mk m a b c d f g h i l n o p r t u w y z A v0 C D E F G H I J K L M N O Q R S T U W Y Z a1 b1 c1 d1 f1 g1 h1 i1 l1 n1 o1 p1 r1 t1 u1 w1 y1 z1 A1 B1 C1 D1 E1 F1 G1 H1 I1 J1 K1 L1 M1 N1 O1 Q1 R1 S1 T1) s)) x s κ
theorem r73x3ok : RgOk P false o73x3 T78 r73x3 := fun _ _ x _ _ => by cases x; kernel_rfl
def o73x4 : Array Oper := regO (pth [1, 1, 0, 1, 0, 0, 1, 1, 0, 0, 0] c73v)
def r73x4 : RG X78 := fun call yl x s κ => X78.rec (motive := fun _ => MO X78) (fun m a b c d f g h i l n o p r t u w y z A B C D E F G H I J K L M N O Q R S T U W Y Z a1 b1 c1 d1 f1 g1 h1 i1 l1 n1 o1 p1 r1 t1 u1 w1 y1 z1 A1 B1 C1 D1 E1 F1 G1 H1 I1 J1 K1 L1 M1 N1 O1 Q1 R1 S1 T1 s κ => natK A fun j => V.iff (Nat.ble (Nat.succ j) 17) (prV z false (Nat.mul j 1) 1 s (fun v0 s => κ (X78.mk m a b c d A v0 h i l n o p r t u w y z A B A v0 E F G H I J K L M N O Q R S T U W Y Z a1 b1 c1 d1 f1 g1 h1 i1 l1 n1 o1 p1 r1 t1 u1 w1 y1 z1 A1 B1 C1 D1 E1 F1 G1 H1 I1 J1 K1 L1 M1 N1 O1 Q1 R1 S1 T1) s))) x s κ
theorem r73x4ok : RgOk P false o73x4 T78 r73x4 := fun _ _ x _ _ => by cases x; kernel_rfl
def o73x5 : Array Oper := regO (pth [1, 1, 0, 1, 0, 0, 1, 1, 0, 0, 1, 0, 0] c73v)
def r73x5 : RG X78 := fun call yl x s κ => X78.rec (motive := fun _ => MO X78) (fun m a b c d f g h i l n o p r t u w y z A B C D E F G H I J K L M N O Q R S T U W Y Z a1 b1 c1 d1 f1 g1 h1 i1 l1 n1 o1 p1 r1 t1 u1 w1 y1 z1 A1 B1 C1 D1 E1 F1 G1 H1 I1 J1 K1 L1 M1 N1 O1 Q1 R1 S1 T1 s κ => binC g (.o (.p none)) 87 .eql P s (fun v0 s => κ (X78.mk m a b c d f g h i l n o p r t u w y z A B C D g v0 G H I J K L M N O Q R S T U W Y Z a1 b1 c1 d1 f1 g1 h1 i1 l1 n1 o1 p1 r1 t1 u1 w1 y1 z1 A1 B1 C1 D1 E1 F1 G1 H1 I1 J1 K1 L1 M1 N1 O1 Q1 R1 S1 T1) s)) x s κ
theorem r73x5ok : RgOk P false o73x5 T78 r73x5 := fun _ _ x _ _ => by cases x; kernel_rfl
def o73x6 : Array Oper := regO (pth [1, 1, 0, 1, 0, 0, 1, 1, 0, 0, 1, 1, 0] c73v)
def r73x6 : RG X78 := fun call yl x s κ => X78.rec (motive := fun _ => MO X78) (fun m a b c d f g h i l n o p r t u w y z A B C D E F G H I J K L M N O Q R S T U W Y Z a1 b1 c1 d1 f1 g1 h1 i1 l1 n1 o1 p1 r1 t1 u1 w1 y1 z1 A1 B1 C1 D1 E1 F1 G1 H1 I1 J1 K1 L1 M1 N1 O1 Q1 R1 S1 T1 s κ => ptrK b 0 s (fun v0 s => ldV v0 false 1 s (fun v1 s => call 99 [v1, f] s (fun v2 s => exV v2 0 s (fun v3 s => exV v2 1 s (fun v4 s => κ (X78.mk m a b c d f g v3 v4 l n o p r t u w y z A B C D E F v2 v0 v1 f v2 v3 v4 N O Q R S T U W Y Z a1 b1 c1 d1 f1 g1 h1 i1 l1 n1 o1 p1 r1 t1 u1 w1 y1 z1 A1 B1 C1 D1 E1 F1 G1 H1 I1 J1 K1 L1 M1 N1 O1 Q1 R1 S1 T1) s)))))) x s κ
theorem r73x6ok : RgOk P false o73x6 T78 r73x6 := fun _ _ x _ _ => by cases x; kernel_rfl
def o73x7 : Array Oper := regO (pth [1, 1, 0, 1, 0, 0, 1, 1, 0, 0, 1, 1, 1, 0, 0] c73v)
def r73x7 : RG X78 := fun call yl x s κ => X78.rec (motive := fun _ => MO X78) (fun m a b c d f g h i l n o p r t u w y z A B C D E F G H I J K L M N O Q R S T U W Y Z a1 b1 c1 d1 f1 g1 h1 i1 l1 n1 o1 p1 r1 t1 u1 w1 y1 z1 A1 B1 C1 D1 E1 F1 G1 H1 I1 J1 K1 L1 M1 N1 O1 Q1 R1 S1 T1 s κ => κ (X78.mk m a b c d f g h i f n o p r t u w y z A B C D E F G H I J K L M f O Q R S T U W Y Z a1 b1 c1 d1 f1 g1 h1 i1 l1 n1 o1 p1 r1 t1 u1 w1 y1 z1 A1 B1 C1 D1 E1 F1 G1 H1 I1 J1 K1 L1 M1 N1 O1 Q1 R1 S1 T1) s) x s κ
theorem r73x7ok : RgOk P false o73x7 T78 r73x7 := fun _ _ x _ _ => by cases x; kernel_rfl
def o73x8 : Array Oper := regO (pth [1, 1, 0, 1, 0, 0, 1, 1, 0, 0, 1, 1, 1, 0, 1, 0, 0, 0] c73v)
def r73x8 : RG X78 := fun call yl x s κ => X78.rec (motive := fun _ => MO X78) (fun m a b c d f g h i l n o p r t u w y z A B C D E F G H I J K L M N O Q R S T U W Y Z a1 b1 c1 d1 f1 g1 h1 i1 l1 n1 o1 p1 r1 t1 u1 w1 y1 z1 A1 B1 C1 D1 E1 F1 G1 H1 I1 J1 K1 L1 M1 N1 O1 Q1 R1 S1 T1 s κ => ptrK b 0 s (fun v0 s => ldV v0 false 1 s (fun v1 s => call 55 [v1, l] s (fun v2 s => notC v2 s (fun v3 s => κ (X78.mk m a b c d f g h i l n o p r t u w y z A B C D E F G H I J K L M N v3 v0 v1 l v2 v3 W Y Z a1 b1 c1 d1 f1 g1 h1 i1 l1 n1 o1 p1 r1 t1 u1 w1 y1 z1 A1 B1 C1 D1 E1 F1 G1 H1 I1 J1 K1 L1 M1 N1 O1 Q1 R1 S1 T1) s))))) x s κ
theorem r73x8ok : RgOk P false o73x8 T78 r73x8 := fun _ _ x _ _ => by cases x; kernel_rfl
def o73x9 : Array Oper := regO (pth [1, 1, 0, 1, 0, 0, 1, 1, 0, 0, 1, 1, 1, 0, 1, 0, 0, 1, 1] c73v)
def r73x9 : RG X78 := fun call yl x s κ => X78.rec (motive := fun _ => MO X78) (fun m a b c d f g h i l n o p r t u w y z A B C D E F G H I J K L M N O Q R S T U W Y Z a1 b1 c1 d1 f1 g1 h1 i1 l1 n1 o1 p1 r1 t1 u1 w1 y1 z1 A1 B1 C1 D1 E1 F1 G1 H1 I1 J1 K1 L1 M1 N1 O1 Q1 R1 S1 T1 s κ => bnk (fun κ1 => wantC d true (κ1 l s) (κ1 .e s)) (fun v0 s => bnk (fun κ1 => wantC d true (binC v0 (.i .i64 4) 91 .eql P s (κ1)) (κ1 .e s)) (fun v1 s => bnk (fun κ1 => wantC d true (κ1 v1 s) (κ1 .e s)) (fun v2 s => bnk (fun κ1 => wantC v2 false (κ1 l s) (κ1 .e s)) (fun v3 s => bnk (fun κ1 => wantC v2 false (binC v3 (.i .i64 5) 91 .eql P s (κ1)) (κ1 .e s)) (fun v4 s => bnk (fun κ1 => wantC d true (bnk (fun κ0 => condB v2 (κ0 (.b true) s) (κ0 v4 s)) (κ1)) (κ1 .e s)) (fun v5 s => bnk (fun κ1 => wantC d true (κ1 v5 s) (κ1 .e s)) (fun v6 s => bnk (fun κ1 => wantC v6 false (κ1 l s) (κ1 .e s)) (fun v7 s => bnk (fun κ1 => wantC v6 false (binC v7 (.i .i64 6) 91 .eql P s (κ1)) (κ1 .e s)) (fun v8 s => bnk (fun κ1 => wantC d true (bnk (fun κ0 => condB v6 (κ0 (.b true) s) (κ0 v8 s)) (κ1)) (κ1 .e s)) (fun v9 s => bnk (fun κ1 => wantC d true (κ1 v9 s) (κ1 .e s)) (fun v10 s => bnk (fun κ1 => wantC v10 false (κ1 l s) (κ1 .e s)) (fun v11 s => bnk (fun κ1 => wantC v10 false (binC v11 (.i .i64 12) 91 .eql P s (κ1)) (κ1 .e s)) (fun v12 s => bnk (fun κ1 => wantC d true (bnk (fun κ0 => condB v10 (κ0 (.b true) s) (κ0 v12 s)) (κ1)) (κ1 .e s)) (fun v13 s => bnk (fun κ0 => condB d (κ0 v13 s) (κ0 (.b false) s)) (fun v14 s => κ (X78.mk m a b c d f g h i l n o p r t u w y z A B C D E F G H I J K L M N v14 Q R S T U d d v0 v1 v2 v3 v4 v5 v6 v7 v8 v9 v10 v11 v12 v13 v14 u1 w1 y1 z1 A1 B1 C1 D1 E1 F1 G1 H1 I1 J1 K1 L1 M1 N1 O1 Q1 R1 S1 T1) s)))))))))))))))) x s κ
theorem r73x9ok : RgOk P false o73x9 T78 r73x9 := fun _ _ x _ _ => by cases x; kernel_rfl
def o73x10 : Array Oper := regO (pth [1, 1, 0, 1, 0, 0, 1, 1, 0, 0, 1, 1, 1, 0, 1, 0, 1, 0] c73v)
def r73x10 : RG X78 := fun call yl x s κ => X78.rec (motive := fun _ => MO X78) (fun m a b c d f g h i l n o p r t u w y z A B C D E F G H I J K L M N O Q R S T U W Y Z a1 b1 c1 d1 f1 g1 h1 i1 l1 n1 o1 p1 r1 t1 u1 w1 y1 z1 A1 B1 C1 D1 E1 F1 G1 H1 I1 J1 K1 L1 M1 N1 O1 Q1 R1 S1 T1 s κ => κ (X78.mk m a b c d f g (.i .i64 0) (.i .i64 0) l n o p r t u w y z A B C D E F G H I J K L M N O Q R S T U W Y Z a1 b1 c1 d1 f1 g1 h1 i1 l1 n1 o1 p1 r1 t1 u1 w1 y1 z1 A1 B1 C1 D1 E1 F1 G1 H1 I1 J1 K1 L1 M1 N1 O1 Q1 R1 S1 T1) s) x s κ
theorem r73x10ok : RgOk P false o73x10 T78 r73x10 := fun _ _ x _ _ => by cases x; kernel_rfl
def o73x11 : Array Oper := regO (pth [1, 1, 0, 1, 0, 0, 1, 1, 0, 0, 1, 1, 1, 1, 0] c73v)
def r73x11 : RG X78 := fun call yl x s κ => X78.rec (motive := fun _ => MO X78) (fun m a b c d f g h i l n o p r t u w y z A B C D E F G H I J K L M N O Q R S T U W Y Z a1 b1 c1 d1 f1 g1 h1 i1 l1 n1 o1 p1 r1 t1 u1 w1 y1 z1 A1 B1 C1 D1 E1 F1 G1 H1 I1 J1 K1 L1 M1 N1 O1 Q1 R1 S1 T1 s κ => nilC g s (fun v0 s => ldV v0 false 1 s (fun v1 s => binC v1 h 3 .lss P s (fun v2 s => bnk (fun κ1 => wantC v2 false (κ1 g s) (κ1 .e s)) (fun v3 s => bnk (fun κ1 => wantC v2 false (nilC v3 s (κ1)) (κ1 .e s)) (fun v4 s => bnk (fun κ1 => wantC v2 false (ldV v4 false 1 s (κ1)) (κ1 .e s)) (fun v5 s => bnk (fun κ1 => wantC v2 false (κ1 i s) (κ1 .e s)) (fun v6 s => bnk (fun κ1 => wantC v2 false (binC v5 v6 3 .gtr P s (κ1)) (κ1 .e s)) (fun v7 s => bnk (fun κ0 => condB v2 (κ0 (.b true) s) (κ0 v7 s)) (fun v8 s => κ (X78.mk m a b c d f g h i l n o p r t u w y z A B C D E F G H I J K L M N O Q R S T U W Y Z a1 b1 c1 d1 f1 g1 h1 i1 l1 n1 o1 p1 r1 t1 g v0 v1 h v2 v2 v3 v4 v5 v6 v7 v8 I1 J1 K1 L1 M1 N1 O1 Q1 R1 S1 T1) s)))))))))) x s κ
theorem r73x11ok : RgOk P false o73x11 T78 r73x11 := fun _ _ x _ _ => by cases x; kernel_rfl
def o73x12 : Array Oper := regO (pth [1, 1, 0, 1, 0, 0, 1, 1, 0, 0, 1, 1, 1, 1, 1, 0, 0] c73v)
def r73x12 : RG X78 := fun call yl x s κ => X78.rec (motive := fun _ => MO X78) (fun m a b c d f g h i l n o p r t u w y z A B C D E F G H I J K L M N O Q R S T U W Y Z a1 b1 c1 d1 f1 g1 h1 i1 l1 n1 o1 p1 r1 t1 u1 w1 y1 z1 A1 B1 C1 D1 E1 F1 G1 H1 I1 J1 K1 L1 M1 N1 O1 Q1 R1 S1 T1 s κ => κ (X78.mk m a b (.b false) d f g h i l n o p r t u w y z A B C D E F G H I J K L M N O Q R S T U W Y Z a1 b1 c1 d1 f1 g1 h1 i1 l1 n1 o1 p1 r1 t1 u1 w1 y1 z1 A1 B1 C1 D1 E1 F1 G1 H1 I1 J1 K1 L1 M1 N1 O1 Q1 R1 S1 T1) s) x s κ
theorem r73x12ok : RgOk P false o73x12 T78 r73x12 := fun _ _ x _ _ => by cases x; kernel_rfl
def o73x13 : Array Oper := regO (pth [1, 1, 0, 1, 0, 0, 1, 1, 1] c73v)
def r73x13 : RG X78 := fun call yl x s κ => X78.rec (motive := fun _ => MO X78) (fun m a b c d f g h i l n o p r t u w y z A B C D E F G H I J K L M N O Q R S T U W Y Z a1 b1 c1 d1 f1 g1 h1 i1 l1 n1 o1 p1 r1 t1 u1 w1 y1 z1 A1 B1 C1 D1 E1 F1 G1 H1 I1 J1 K1 L1 M1 N1 O1 Q1 R1 S1 T1 s κ => binC A (.i .i64 1) 3 .add P s (fun v0 s => κ (X78.mk m a b c d f g h i l n o p r t u w y z v0 B C D E F G H I J K L M N O Q R S T U W Y Z a1 b1 c1 d1 f1 g1 h1 i1 l1 n1 o1 p1 r1 t1 u1 w1 y1 z1 A1 B1 C1 D1 E1 F1 G1 H1 v0 J1 K1 L1 M1 N1 O1 Q1 R1 S1 T1) s)) x s κ
theorem r73x13ok : RgOk P false o73x13 T78 r73x13 := fun _ _ x _ _ => by cases x; kernel_rfl
def o73x14 : Array Oper := regO (pth [1, 1, 1, 0] c73v)
def r73x14 : RG X78 := fun call yl x s κ => X78.rec (motive := fun _ => MO X78) (fun m a b c d f g h i l n o p r t u w y z A B C D E F G H I J K L M N O Q R S T U W Y Z a1 b1 c1 d1 f1 g1 h1 i1 l1 n1 o1 p1 r1 t1 u1 w1 y1 z1 A1 B1 C1 D1 E1 F1 G1 H1 I1 J1 K1 L1 M1 N1 O1 Q1 R1 S1 T1 s κ => ptrK b 0 s (fun v0 s => ldV v0 false 1 s (fun v1 s => binC v1 (.i .i64 5) 3 .neq P s (fun v2 s => bnk (fun κ1 => wantC v2 false (ptrK b 8 s (κ1)) (κ1 .e s)) (fun v3 s => bnk (fun κ1 => wantC v2 false (ldV v3 false 1 s (κ1)) (κ1 .e s)) (fun v4 s => bnk (fun κ1 => wantC v2 false (ptrK b 7 s (κ1)) (κ1 .e s)) (fun v5 s => bnk (fun κ1 => wantC v2 false (ldV v5 false 1 s (κ1)) (κ1 .e s)) (fun v6 s => bnk (fun κ1 => wantC v2 false (binC v4 v6 3 .neq P s (κ1)) (κ1 .e s)) (fun v7 s => bnk (fun κ0 => condB v2 (κ0 (.b true) s) (κ0 v7 s)) (fun v8 s => κ (X78.mk m a b v8 d f g h i l n o p r t u w y z A B C D E F G H I J K L M N O Q R S T U W Y Z a1 b1 c1 d1 f1 g1 h1 i1 l1 n1 o1 p1 r1 t1 u1 w1 y1 z1 A1 B1 C1 D1 E1 F1 G1 H1 I1 v0 v1 v2 v2 v3 v4 v5 v6 v7 v8) s)))))))))) x s κ
theorem r73x14ok : RgOk P false o73x14 T78 r73x14 := fun _ _ x _ _ => by cases x; kernel_rfl
def S73 : SF X78 := (seqS (regS P t1.fq r73x0) (seqS (regS P t1.fq r73x1) (seqS (seqS (regS P t1.fq r73x2) (blkS 0 (loopS (seqS (regS P t1.fq r73x3) (seqS (condS (fun x => X78.rec (motive := fun _ => FV) (fun _ _ _ _ _ _ _ _ _ _ _ _ _ _ _ _ _ _ _ _ z _ _ _ _ _ _ _ _ _ _ _ _ _ _ _ _ _ _ _ _ _ _ _ _ _ _ _ _ _ _ _ _ _ _ _ _ _ _ _ _ _ _ _ _ _ _ _ _ _ _ _ _ _ _ _ _ _ _ => z) x) skipS (exitS 0)) (seqS (blkS 1 (seqS (regS P t1.fq r73x4) (seqS (seqS (regS P t1.fq r73x5) (condS (fun x => X78.rec (motive := fun _ => FV) (fun _ _ _ _ _ _ _ _ _ _ _ _ _ _ _ _ _ _ _ _ _ _ _ _ z _ _ _ _ _ _ _ _ _ _ _ _ _ _ _ _ _ _ _ _ _ _ _ _ _ _ _ _ _ _ _ _ _ _ _ _ _ _ _ _ _ _ _ _ _ _ _ _ _ _ _ _ _ _ => z) x) (exitS 1) skipS)) (seqS (regS P t1.fq r73x6) (seqS (seqS (regS P t1.fq r73x7) (blkS 2 (seqS (seqS (regS P t1.fq r73x8) (condS (fun x => X78.rec (motive := fun _ => FV) (fun _ _ _ _ _ _ _ _ _ _ _ _ _ _ _ _ _ _ _ _ _ _ _ _ _ _ _ _ _ _ _ _ _ z _ _ _ _ _ _ _ _ _ _ _ _ _ _ _ _ _ _ _ _ _ _ _ _ _ _ _ _ _ _ _ _ _ _ _ _ _ _ _ _ _ _ _ _ _ => z) x) skipS (regS P t1.fq r73x9))) (condS (fun x => X78.rec (motive := fun _ => FV) (fun _ _ _ _ _ _ _ _ _ _ _ _ _ _ _ _ _ _ _ _ _ _ _ _ _ _ _ _ _ _ _ _ _ z _ _ _ _ _ _ _ _ _ _ _ _ _ _ _ _ _ _ _ _ _ _ _ _ _ _ _ _ _ _ _ _ _ _ _ _ _ _ _ _ _ _ _ _ _ => z) x) (regS P t1.fq r73x10) skipS)))) (seqS (regS P t1.fq r73x11) (condS (fun x => X78.rec (motive := fun _ => FV) (fun _ _ _ _ _ _ _ _ _ _ _ _ _ _ _ _ _ _ _ _ _ _ _ _ _ _ _ _ _ _ _ _ _ _ _ _ _ _ _ _ _ _ _ _ _ _ _ _ _ _ _ _ _ _ _ _ _ _ _ _ _ _ _ _ _ _ _ z _ _ _ _ _ _ _ _ _ _ _ => z) x) (seqS (regS P t1.fq r73x12) retS) skipS))))))) (regS P t1.fq r73x13))))))) (seqS (regS P t1.fq r73x14) retS))))
theorem S73ok : Sh P t1.fq T78 c73v S73 := by
  have e : c73v = (.seq (.region 0 o73x0 false) (.seq (.region 1 o73x1 false) (.seq (.seq (.region 2 o73x2 false) (.block 0 (.loop (.seq (.region 3 o73x3 false) (.seq (.cond (.tmp 19) .skip (.exit 0)) (.seq (.block 1 (.seq (.region 4 o73x4 false) (.seq (.seq (.region 5 o73x5 false) (.cond (.tmp 23) (.exit 1) .skip)) (.seq (.region 6 o73x6 false) (.seq (.seq (.region 7 o73x7 false) (.block 2 (.seq (.seq (.region 8 o73x8 false) (.cond (.tmp 32) .skip (.region 9 o73x9 false))) (.cond (.tmp 32) (.region 10 o73x10 false) .skip)))) (.seq (.region 11 o73x11 false) (.cond (.tmp 66) (.seq (.region 12 o73x12 false) .ret) .skip))))))) (.region 13 o73x13 false))))))) (.seq (.region 14 o73x14 false) .ret)))) := by kernel_rfl
  rw [e]
  exact (sh_seq (sh_reg r73x0ok) (sh_seq (sh_reg r73x1ok) (sh_seq (sh_seq (sh_reg r73x2ok) (sh_blk 0 (sh_loop (sh_seq (sh_reg r73x3ok) (sh_seq (sh_cond (fun x => by cases x; rfl) sh_skip (sh_exit 0)) (sh_seq (sh_blk 1 (sh_seq (sh_reg r73x4ok) (sh_seq (sh_seq (sh_reg r73x5ok) (sh_cond (fun x => by cases x; rfl) (sh_exit 1) sh_skip)) (sh_seq (sh_reg r73x6ok) (sh_seq (sh_seq (sh_reg r73x7ok) (sh_blk 2 (sh_seq (sh_seq (sh_reg r73x8ok) (sh_cond (fun x => by cases x; rfl) sh_skip (sh_reg r73x9ok))) (sh_cond (fun x => by cases x; rfl) (sh_reg r73x10ok) sh_skip)))) (sh_seq (sh_reg r73x11ok) (sh_cond (fun x => by cases x; rfl) (sh_seq (sh_reg r73x12ok) sh_ret) sh_skip))))))) (sh_reg r73x13ok))))))) (sh_seq (sh_reg r73x14ok) sh_ret))))
def A73 : List FV → Option X78 := fun l => match l with
  | [a] => some (X78.mk [] a .e .e .e .e .e .e .e .e .e .e .e .e .e .e .e .e .e .e .e .e .e .e .e .e .e .e .e .e .e .e .e .e .e .e .e .e .e .e .e .e .e .e .e .e .e .e .e .e .e .e .e .e .e .e .e .e .e .e .e .e .e .e .e .e .e .e .e .e .e .e .e .e .e .e .e .e .e)
  | _ => none
def L73 : LQ := shal P T78 S73 [.tmp 2] 4000 A73
def E73 : LA := evCall P t1.fa 4000 73
theorem G73 : Good P 73 L73 E73 := good_shal all1 (by kernel_rfl) (show FT P 73 = some (c73v, 78, [.tmp 2]) by kernel_rfl) S73ok (fun l x h => by
    unfold A73 at h
    split at h
    · cases h; exact ⟨by kernel_rfl, by kernel_rfl⟩
    · cases h) 4000
inductive X34 where
  | mk (m : List Nat) (a b c d f g h i l n o p r t u w y z A B C D E F G H I J K L M N O Q : FV)
def T34 (x : X34) : FF := X34.rec (motive := fun _ => FF) (fun m a b c d f g h i l n o p r t u w y z A B C D E F G H I J K L M N O Q => ⟨(.n a (.n b (.n g (.n D .e .e .e .e) .e .e .e) (.n n (.n H .e .e .e .e) .e .e .e) (.n t (.n L .e .e .e .e) .e .e .e) (.n z (.n Q .e .e .e .e) .e .e .e)) (.n c (.n h (.n E .e .e .e .e) .e .e .e) (.n o (.n I .e .e .e .e) .e .e .e) (.n u (.n M .e .e .e .e) .e .e .e) (.n A .e .e .e .e)) (.n d (.n i (.n F .e .e .e .e) .e .e .e) (.n p (.n J .e .e .e .e) .e .e .e) (.n w (.n N .e .e .e .e) .e .e .e) (.n B .e .e .e .e)) (.n f (.n l (.n G .e .e .e .e) .e .e .e) (.n r (.n K .e .e .e .e) .e .e .e) (.n y (.n O .e .e .e .e) .e .e .e) (.n C .e .e .e .e))), 34, m⟩) x
def c81v : Code := bodyOf P 81
def o81x0 : Array Oper := regO (pth [0] c81v)
def r81x0 : RG X34 := fun call yl x s κ => X34.rec (motive := fun _ => MO X34) (fun m a b c d f g h i l n o p r t u w y z A B C D E F G H I J K L M N O Q s κ => bxV a 47 s (fun v0 s => κ (X34.mk m a v0 (.b false) d f g h i l n o p r t u w y z A B C D E F G H I J K L M N O Q) s)) x s κ
theorem r81x0ok : RgOk P false o81x0 T34 r81x0 := fun _ _ x _ _ => by cases x; kernel_rfl
def o81x1 : Array Oper := regO (pth [1, 0] c81v)
def r81x1 : RG X34 := fun call yl x s κ => X34.rec (motive := fun _ => MO X34) (fun m a b c d f g h i l n o p r t u w y z A B C D E F G H I J K L M N O Q s κ => ptrK b 0 s (fun v0 s => ldV v0 false 1 s (fun v1 s => call 110 [v1] s (fun v2 s => bnk (fun κ1 => wantC v2 true (ptrK b 1 s (κ1)) (κ1 .e s)) (fun v3 s => bnk (fun κ1 => wantC v2 true (ldV v3 false 1 s (κ1)) (κ1 .e s)) (fun v4 s => bnk (fun κ1 => wantC v2 true (call 110 [v4] s (κ1)) (κ1 .e s)) (fun v5 s => bnk (fun κ0 => condB v2 (κ0 v5 s) (κ0 (.b false) s)) (fun v6 s => bnk (fun κ1 => wantC v6 true (ptrK b 0 s (κ1)) (κ1 .e s)) (fun v7 s => bnk (fun κ1 => wantC v6 true (ldV v7 false 1 s (κ1)) (κ1 .e s)) (fun v8 s => bnk (fun κ1 => wantC v6 true (ptrK b 1 s (κ1)) (κ1 .e s)) (fun v9 s => bnk (fun κ1 => wantC v6 true (ldV v9 false 1 s (κ1)) (κ1 .e s)) (fun v10 s => bnk (fun κ1 => wantC v6 true (binC v8 v10 3 .neq P s (κ1)) (κ1 .e s)) (fun v11 s => bnk (fun κ0 => condB v6 (κ0 v11 s) (κ0 (.b false) s)) (fun v12 s => bnk (fun κ1 => wantC v12 true (ptrK b 2 s (κ1)) (κ1 .e s)) (fun v13 s => bnk (fun κ1 => wantC v12 true (ldV v13 false 1 s (κ1)) (κ1 .e s)) (fun v14 s => bnk (fun κ1 => wantC v12 true (binC (.i .i64 1) v14 3 .leq P s (κ1)) (κ1 .e s)) (fun v15 s => bnk (fun κ0 => condB v12 (κ0 v15 s) (κ0 (.b false) s)) (fun v16 s => bnk (fun κ1 => wantC v16 true (ptrK b 2 s (κ1)) (κ1 .e s)) (fun v17 s => bnk (fun κ1 => wantC v16 true (ldV v17 false 1 s (κ1)) (κ1 .e s)) (fun v18 s => bnk (fun κ1 => wantC v16 true (binC v18 (.i .i64 1099511627776) 3 .leq P s (κ1)) (κ1 .e s)) (fun v19 s => bnk (fun κ0 => condB v16 (κ0 v19 s) (κ0 (.b false) s)) (fun v20 s => bnk (fun κ1 => wantC v20 true (ptrK b 3 s (κ1)) (κ1 .e s)) (fun v21 s => bnk (fun κ1 => wantC v20 true (ldV v21 false 1 s (κ1)) (κ1 .e s)) (fun v22 s => bnk (fun κ1 => wantC v20 true (lenC v22 P 45 s (κ1)) (κ1 .e s)) (fun v23 s => bnk (fun κ1 => wantC v20 true (binC v23 (.i .i64 1048576) 3 .leq P s (κ1)) (κ1 .e s)) (fun v24 s => bnk (fun κ0 => condB v20 (κ0 v24 s) (κ0 (.b false) s)) (fun v25 s => κ (X34.mk m a b v25 v0 v1 v2 v2 v3 v4 v5 v6 v6 v7 v8 v9 v10 v11 v12 v12 v13 v14 v15 v16 v16 v17 v18 v19 v20 v20 v21 v22 v23 v24 v25) s))))))))))))))))))))))))))) x s κ
theorem r81x1ok : RgOk P false o81x1 T34 r81x1 := fun _ _ x _ _ => by cases x; kernel_rfl
def S81 : SF X34 := (seqS (regS P t1.fq r81x0) (seqS (regS P t1.fq r81x1) retS))
theorem S81ok : Sh P t1.fq T34 c81v S81 := by
  have e : c81v = (.seq (.region 0 o81x0 false) (.seq (.region 1 o81x1 false) .ret)) := by kernel_rfl
  rw [e]
  exact (sh_seq (sh_reg r81x0ok) (sh_seq (sh_reg r81x1ok) sh_ret))
def A81 : List FV → Option X34 := fun l => match l with
  | [a] => some (X34.mk [] a .e .e .e .e .e .e .e .e .e .e .e .e .e .e .e .e .e .e .e .e .e .e .e .e .e .e .e .e .e .e .e .e .e)
  | _ => none
def L81 : LQ := shal P T34 S81 [.tmp 2] 4000 A81
def E81 : LA := evCall P t1.fa 4000 81
theorem G81 : Good P 81 L81 E81 := good_shal all1 (by kernel_rfl) (show FT P 81 = some (c81v, 34, [.tmp 2]) by kernel_rfl) S81ok (fun l x h => by
    unfold A81 at h
    split at h
    · cases h; exact ⟨by kernel_rfl, by kernel_rfl⟩
    · cases h) 4000
inductive X39 where
  | mk (m : List Nat) (a b c d f g h i l n o p r t u w y z A B C D E F G H I J K L M N O Q R S T U W : FV)
def T39 (x : X39) : FF := X39.rec (motive := fun _ => FF) (fun m a b c d f g h i l n o p r t u w y z A B C D E F G H I J K L M N O Q R S T U W => ⟨(.n a (.n b (.n g (.n D .e .e .e .e) (.n U .e .e .e .e) .e .e) (.n n (.n H .e .e .e .e) .e .e .e) (.n t (.n L .e .e .e .e) .e .e .e) (.n z (.n Q .e .e .e .e) .e .e .e)) (.n c (.n h (.n E .e .e .e .e) (.n W .e .e .e .e) .e .e) (.n o (.n I .e .e .e .e) .e .e .e) (.n u (.n M .e .e .e .e) .e .e .e) (.n A (.n R .e .e .e .e) .e .e .e)) (.n d (.n i (.n F .e .e .e .e) .e .e .e) (.n p (.n J .e .e .e .e) .e .e .e) (.n w (.n N .e .e .e .e) .e .e .e) (.n B (.n S .e .e .e .e) .e .e .e)) (.n f (.n l (.n G .e .e .e .e) .e .e .e) (.n r (.n K .e .e .e .e) .e .e .e) (.n y (.n O .e .e .e .e) .e .e .e) (.n C (.n T .e .e .e .e) .e .e .e))), 39, m⟩) x
def c85v : Code := bodyOf P 85
def o85x0 : Array Oper := regO (pth [0] c85v)
def r85x0 : RG X39 := fun call yl x s κ => X39.rec (motive := fun _ => MO X39) (fun m a b c d f g h i l n o p r t u w y z A B C D E F G H I J K L M N O Q R S T U W s κ => bxV a 40 s (fun v0 s => κ (X39.mk m a b v0 d (.b false) g h i l n o p r t u w y z A B C D E F G H I J K L M N O Q R S T U W) s)) x s κ
theorem r85x0ok : RgOk P false o85x0 T39 r85x0 := fun _ _ x _ _ => by cases x; kernel_rfl
def o85x1 : Array Oper := regO (pth [1, 0, 0] c85v)
def r85x1 : RG X39 := fun call yl x s κ => X39.rec (motive := fun _ => MO X39) (fun m a b c d f g h i l n o p r t u w y z A B C D E F G H I J K L M N O Q R S T U W s κ => κ (X39.mk m a b c d f b h i l n o p r t u w y z A B C D E F G H I J K L M N O Q R S T U W) s) x s κ
theorem r85x1ok : RgOk P false o85x1 T39 r85x1 := fun _ _ x _ _ => by cases x; kernel_rfl
def o85x2 : Array Oper := regO (pth [1, 0, 1, 0, 0] c85v)
def r85x2 : RG X39 := fun call yl x s κ => X39.rec (motive := fun _ => MO X39) (fun m a b c d f g h i l n o p r t u w y z A B C D E F G H I J K L M N O Q R S T U W s κ => binC g (.i .i64 9) 3 .eql P s (fun v0 s => κ (X39.mk m a b c d f g v0 v0 l n o p r t u w y z A B C D E F G H I J K L M N O Q R S T U W) s)) x s κ
theorem r85x2ok : RgOk P false o85x2 T39 r85x2 := fun _ _ x _ _ => by cases x; kernel_rfl
def o85x3 : Array Oper := regO (pth [1, 0, 1, 0, 1, 0, 0] c85v)
def r85x3 : RG X39 := fun call yl x s κ => X39.rec (motive := fun _ => MO X39) (fun m a b c d f g h i l n o p r t u w y z A B C D E F G H I J K L M N O Q R S T U W s κ => ptrK c 12 s (fun v0 s => ldV v0 true 5 s (fun v1 s => buildC P 29 [] s (fun v2 s => binC v1 v2 29 .eql P s (fun v3 s => κ (X39.mk m a b c d v3 g h i v0 v1 v2 v3 r t u w y z A B C D E F G H I J K L M N O Q R S T U W) s))))) x s κ
theorem r85x3ok : RgOk P false o85x3 T39 r85x3 := fun _ _ x _ _ => by cases x; kernel_rfl
def o85x4 : Array Oper := regO (pth [1, 0, 1, 0, 1, 1, 0] c85v)
def r85x4 : RG X39 := fun call yl x s κ => X39.rec (motive := fun _ => MO X39) (fun m a b c d f g h i l n o p r t u w y z A B C D E F G H I J K L M N O Q R S T U W s κ => binC g (.i .i64 10) 3 .eql P s (fun v0 s => κ (X39.mk m a b c d f g h i l n o p v0 v0 u w y z A B C D E F G H I J K L M N O Q R S T U W) s)) x s κ
theorem r85x4ok : RgOk P false o85x4 T39 r85x4 := fun _ _ x _ _ => by cases x; kernel_rfl
def o85x5 : Array Oper := regO (pth [1, 0, 1, 0, 1, 1, 1, 0, 0] c85v)
def r85x5 : RG X39 := fun call yl x s κ => X39.rec (motive := fun _ => MO X39) (fun m a b c d f g h i l n o p r t u w y z A B C D E F G H I J K L M N O Q R S T U W s κ => ptrK c 17 s (fun v0 s => ldV v0 true 7 s (fun v1 s => call 92 [v1] s (fun v2 s => κ (X39.mk m a b c d v2 g h i l n o p r t v0 v1 v2 z A B C D E F G H I J K L M N O Q R S T U W) s)))) x s κ
theorem r85x5ok : RgOk P false o85x5 T39 r85x5 := fun _ _ x _ _ => by cases x; kernel_rfl
def o85x6 : Array Oper := regO (pth [1, 0, 1, 0, 1, 1, 1, 1, 0] c85v)
def r85x6 : RG X39 := fun call yl x s κ => X39.rec (motive := fun _ => MO X39) (fun m a b c d f g h i l n o p r t u w y z A B C D E F G H I J K L M N O Q R S T U W s κ => binC g (.i .i64 14) 3 .eql P s (fun v0 s => κ (X39.mk m a b c d f g h i l n o p r t u w y v0 v0 B C D E F G H I J K L M N O Q R S T U W) s)) x s κ
theorem r85x6ok : RgOk P false o85x6 T39 r85x6 := fun _ _ x _ _ => by cases x; kernel_rfl
def o85x7 : Array Oper := regO (pth [1, 0, 1, 0, 1, 1, 1, 1, 1, 0, 0] c85v)
def r85x7 : RG X39 := fun call yl x s κ => X39.rec (motive := fun _ => MO X39) (fun m a b c d f g h i l n o p r t u w y z A B C D E F G H I J K L M N O Q R S T U W s κ => ptrK c 27 s (fun v0 s => ldV v0 true 2 s (fun v1 s => buildC P 36 [] s (fun v2 s => binC v1 v2 36 .eql P s (fun v3 s => κ (X39.mk m a b c d v3 g h i l n o p r t u w y z A v0 v1 v2 v3 F G H I J K L M N O Q R S T U W) s))))) x s κ
theorem r85x7ok : RgOk P false o85x7 T39 r85x7 := fun _ _ x _ _ => by cases x; kernel_rfl
def o85x8 : Array Oper := regO (pth [1, 0, 1, 0, 1, 1, 1, 1, 1, 1, 0] c85v)
def r85x8 : RG X39 := fun call yl x s κ => X39.rec (motive := fun _ => MO X39) (fun m a b c d f g h i l n o p r t u w y z A B C D E F G H I J K L M N O Q R S T U W s κ => binC g (.i .i64 15) 3 .eql P s (fun v0 s => κ (X39.mk m a b c d f g h i l n o p r t u w y z A B C D E v0 v0 H I J K L M N O Q R S T U W) s)) x s κ
theorem r85x8ok : RgOk P false o85x8 T39 r85x8 := fun _ _ x _ _ => by cases x; kernel_rfl
def o85x9 : Array Oper := regO (pth [1, 0, 1, 0, 1, 1, 1, 1, 1, 1, 1, 0, 0] c85v)
def r85x9 : RG X39 := fun call yl x s κ => X39.rec (motive := fun _ => MO X39) (fun m a b c d f g h i l n o p r t u w y z A B C D E F G H I J K L M N O Q R S T U W s κ => ptrK c 29 s (fun v0 s => ldV v0 false 1 s (fun v1 s => lenC v1 P 23 s (fun v2 s => binC v2 (.i .i64 0) 3 .eql P s (fun v3 s => κ (X39.mk m a b c d v3 g h i l n o p r t u w y z A B C D E F G v0 v1 v2 v3 L M N O Q R S T U W) s))))) x s κ
theorem r85x9ok : RgOk P false o85x9 T39 r85x9 := fun _ _ x _ _ => by cases x; kernel_rfl
def o85x10 : Array Oper := regO (pth [1, 0, 1, 0, 1, 1, 1, 1, 1, 1, 1, 1, 0] c85v)
def r85x10 : RG X39 := fun call yl x s κ => X39.rec (motive := fun _ => MO X39) (fun m a b c d f g h i l n o p r t u w y z A B C D E F G H I J K L M N O Q R S T U W s κ => binC g (.i .i64 16) 3 .eql P s (fun v0 s => κ (X39.mk m a b c d f g h i l n o p r t u w y z A B C D E F G H I J K v0 v0 N O Q R S T U W) s)) x s κ
theorem r85x10ok : RgOk P false o85x10 T39 r85x10 := fun _ _ x _ _ => by cases x; kernel_rfl
def o85x11 : Array Oper := regO (pth [1, 0, 1, 0, 1, 1, 1, 1, 1, 1, 1, 1, 1, 0, 0] c85v)
def r85x11 : RG X39 := fun call yl x s κ => X39.rec (motive := fun _ => MO X39) (fun m a b c d f g h i l n o p r t u w y z A B C D E F G H I J K L M N O Q R S T U W s κ => ptrK c 30 s (fun v0 s => ldV v0 true 32 s (fun v1 s => buildC P 38 [] s (fun v2 s => binC v1 v2 38 .eql P s (fun v3 s => κ (X39.mk m a b c d v3 g h i l n o p r t u w y z A B C D E F G H I J K L M v0 v1 v2 v3 S T U W) s))))) x s κ
theorem r85x11ok : RgOk P false o85x11 T39 r85x11 := fun _ _ x _ _ => by cases x; kernel_rfl
def o85x12 : Array Oper := regO (pth [1, 1, 0] c85v)
def r85x12 : RG X39 := fun call yl x s κ => X39.rec (motive := fun _ => MO X39) (fun m a b c d f g h i l n o p r t u w y z A B C D E F G H I J K L M N O Q R S T U W s κ => ldV c true 62 s (fun v0 s => call 34 [v0, b] s (fun v1 s => binC v1 (.i .i64 0) 3 .eql P s (fun v2 s => κ (X39.mk m a b c d v2 g h i l n o p r t u w y z A B C D E F G H I J K L M N O Q R v0 b v1 v2) s)))) x s κ
theorem r85x12ok : RgOk P false o85x12 T39 r85x12 := fun _ _ x _ _ => by cases x; kernel_rfl
def S85 : SF X39 := (seqS (regS P t1.fq r85x0) (seqS (seqS (regS P t1.fq r85x1) (blkS 0 (seqS (regS P t1.fq r85x2) (condS (fun x => X39.rec (motive := fun _ => FV) (fun _ _ _ _ _ _ _ z _ _ _ _ _ _ _ _ _ _ _ _ _ _ _ _ _ _ _ _ _ _ _ _ _ _ _ _ _ _ _ _ => z) x) (seqS (regS P t1.fq r85x3) retS) (seqS (regS P t1.fq r85x4) (condS (fun x => X39.rec (motive := fun _ => FV) (fun _ _ _ _ _ _ _ _ _ _ _ _ _ z _ _ _ _ _ _ _ _ _ _ _ _ _ _ _ _ _ _ _ _ _ _ _ _ _ _ => z) x) (seqS (regS P t1.fq r85x5) retS) (seqS (regS P t1.fq r85x6) (condS (fun x => X39.rec (motive := fun _ => FV) (fun _ _ _ _ _ _ _ _ _ _ _ _ _ _ _ _ _ _ z _ _ _ _ _ _ _ _ _ _ _ _ _ _ _ _ _ _ _ _ _ => z) x) (seqS (regS P t1.fq r85x7) retS) (seqS (regS P t1.fq r85x8) (condS (fun x => X39.rec (motive := fun _ => FV) (fun _ _ _ _ _ _ _ _ _ _ _ _ _ _ _ _ _ _ _ _ _ _ _ _ z _ _ _ _ _ _ _ _ _ _ _ _ _ _ _ => z) x) (seqS (regS P t1.fq r85x9) retS) (seqS (regS P t1.fq r85x10) (condS (fun x => X39.rec (motive := fun _ => FV) (fun _ _ _ _ _ _ _ _ _ _ _ _ _ _ _ _ _ _ _ _ _ _ _ _ _ _ _ _ _ _ z _ _ _ _ _ _ _ _ _ => z) x) (seqS (regS P t1.fq r85x11) retS) skipS)))))))))))) (seqS (regS P t1.fq r85x12) retS)))
theorem S85ok : Sh P t1.fq T39 c85v S85 := by
  have e : c85v = (.seq (.region 0 o85x0 false) (.seq (.seq (.region 1 o85x1 false) (.block 0 (.seq (.region 2 o85x2 false) (.cond (.tmp 6) (.seq (.region 3 o85x3 false) .ret) (.seq (.region 4 o85x4 false) (.cond (.tmp 12) (.seq (.region 5 o85x5 false) .ret) (.seq (.region 6 o85x6 false) (.cond (.tmp 17) (.seq (.region 7 o85x7 false) .ret) (.seq (.region 8 o85x8 false) (.cond (.tmp 23) (.seq (.region 9 o85x9 false) .ret) (.seq (.region 10 o85x10 false) (.cond (.tmp 29) (.seq (.region 11 o85x11 false) .ret) .skip)))))))))))) (.seq (.region 12 o85x12 false) .ret))) := by kernel_rfl
  rw [e]
  exact (sh_seq (sh_reg r85x0ok) (sh_seq (sh_seq (sh_reg r85x1ok) (sh_blk 0 (sh_seq (sh_reg r85x2ok) (sh_cond (fun x => by cases x; rfl) (sh_seq (sh_reg r85x3ok) sh_ret) (sh_seq (sh_reg r85x4ok) (sh_cond (fun x => by cases x; rfl) (sh_seq (sh_reg r85x5ok) sh_ret) (sh_seq (sh_reg r85x6ok) (sh_cond (fun x => by cases x; rfl) (sh_seq (sh_reg r85x7ok) sh_ret) (sh_seq (sh_reg r85x8ok) (sh_cond (fun x => by cases x; rfl) (sh_seq (sh_reg r85x9ok) sh_ret) (sh_seq (sh_reg r85x10ok) (sh_cond (fun x => by cases x; rfl) (sh_seq (sh_reg r85x11ok) sh_ret) sh_skip)))))))))))) (sh_seq (sh_reg r85x12ok) sh_ret)))
def A85 : List FV → Option X39 := fun l => match l with
  | [a, b] => some (X39.mk [] a b .e .e .e .e .e .e .e .e .e .e .e .e .e .e .e .e .e .e .e .e .e .e .e .e .e .e .e .e .e .e .e .e .e .e .e .e .e)
  | _ => none
def L85 : LQ := shal P T39 S85 [.tmp 4] 4000 A85
def E85 : LA := evCall P t1.fa 4000 85
theorem G85 : Good P 85 L85 E85 := good_shal all1 (by kernel_rfl) (show FT P 85 = some (c85v, 39, [.tmp 4]) by kernel_rfl) S85ok (fun l x h => by
    unfold A85 at h
    split at h
    · cases h; exact ⟨by kernel_rfl, by kernel_rfl⟩
    · cases h) 4000
inductive X11 where
  | mk (m : List Nat) (a b c d f g h i l n o : FV)
def T11 (x : X11) : FF := X11.rec (motive := fun _ => FF) (fun m a b c d f g h i l n o => ⟨(.n a (.n b (.n g .e .e .e .e) (.n n .e .e .e .e) .e .e) (.n c (.n h .e .e .e .e) (.n o .e .e .e .e) .e .e) (.n d (.n i .e .e .e .e) .e .e .e) (.n f (.n l .e .e .e .e) .e .e .e)), 11, m⟩) x
def c86v : Code := bodyOf P 86
def o86x0 : Array Oper := regO (pth [0] c86v)
def r86x0 : RG X11 := fun call yl x s κ => X11.rec (motive := fun _ => MO X11) (fun m a b c d f g h i l n o s κ => bxV a 40 s (fun v0 s => κ (X11.mk m a v0 (.b false) d f g h i l n o) s)) x s κ
theorem r86x0ok : RgOk P false o86x0 T11 r86x0 := fun _ _ x _ _ => by cases x; kernel_rfl
def o86x1 : Array Oper := regO (pth [1, 0] c86v)
def r86x1 : RG X11 := fun call yl x s κ => X11.rec (motive := fun _ => MO X11) (fun m a b c d f g h i l n o s κ => ptrK b 0 s (fun v0 s => ldV v0 false 1 s (fun v1 s => binC v1 (.i .i64 8) 3 .eql P s (fun v2 s => bnk (fun κ1 => wantC v2 true (ptrK b 17 s (κ1)) (κ1 .e s)) (fun v3 s => bnk (fun κ1 => wantC v2 true (ldV v3 true 7 s (κ1)) (κ1 .e s)) (fun v4 s => bnk (fun κ1 => wantC v2 true (call 92 [v4] s (κ1)) (κ1 .e s)) (fun v5 s => bnk (fun κ0 => condB v2 (κ0 v5 s) (κ0 (.b false) s)) (fun v6 s => κ (X11.mk m a b v6 v0 v1 v2 v2 v3 v4 v5 v6) s)))))))) x s κ
theorem r86x1ok : RgOk P false o86x1 T11 r86x1 := fun _ _ x _ _ => by cases x; kernel_rfl
def S86 : SF X11 := (seqS (regS P t1.fq r86x0) (seqS (regS P t1.fq r86x1) retS))
theorem S86ok : Sh P t1.fq T11 c86v S86 := by
  have e : c86v = (.seq (.region 0 o86x0 false) (.seq (.region 1 o86x1 false) .ret)) := by kernel_rfl
  rw [e]
  exact (sh_seq (sh_reg r86x0ok) (sh_seq (sh_reg r86x1ok) sh_ret))
def A86 : List FV → Option X11 := fun l => match l with
  | [a] => some (X11.mk [] a .e .e .e .e .e .e .e .e .e .e)
  | _ => none
def L86 : LQ := shal P T11 S86 [.tmp 2] 4000 A86
def E86 : LA := evCall P t1.fa 4000 86
theorem G86 : Good P 86 L86 E86 := good_shal all1 (by kernel_rfl) (show FT P 86 = some (c86v, 11, [.tmp 2]) by kernel_rfl) S86ok (fun l x h => by
    unfold A86 at h
    split at h
    · cases h; exact ⟨by kernel_rfl, by kernel_rfl⟩
    · cases h) 4000
def c93v : Code := bodyOf P 93
def o93x0 : Array Oper := regO (pth [0] c93v)
def r93x0 : RG X8 := fun call yl x s κ => X8.rec (motive := fun _ => MO X8) (fun m a b c d f g h i s κ => κ (X8.mk m a b (.o (.sl none 0 0)) d f g h i) s) x s κ
theorem r93x0ok : RgOk P false o93x0 T8 r93x0 := fun _ _ x _ _ => by cases x; kernel_rfl
def o93x1 : Array Oper := regO (pth [1, 0] c93v)
def r93x1 : RG X8 := fun call yl x s κ => X8.rec (motive := fun _ => MO X8) (fun m a b c d f g h i s κ => call 90 [a] s (fun v0 s => κ (X8.mk m a b c v0 a v0 h i) s)) x s κ
theorem r93x1ok : RgOk P false o93x1 T8 r93x1 := fun _ _ x _ _ => by cases x; kernel_rfl
def o93x2 : Array Oper := regO (pth [1, 1, 0] c93v)
def r93x2 : RG X8 := fun call yl x s κ => X8.rec (motive := fun _ => MO X8) (fun m a b c d f g h i s κ => sliceC P 45 d none (some (.i .i64 4)) none s (fun v0 s => κ (X8.mk m a b v0 d f g d v0) s)) x s κ
theorem r93x2ok : RgOk P false o93x2 T8 r93x2 := fun _ _ x _ _ => by cases x; kernel_rfl
def S93 : SF X8 := (seqS (regS P t1.fq r93x0) (seqS (regS P t1.fq r93x1) (seqS (regS P t1.fq r93x2) retS)))
theorem S93ok : Sh P t1.fq T8 c93v S93 := by
  have e : c93v = (.seq (.region 0 o93x0 false) (.seq (.region 1 o93x1 false) (.seq (.region 2 o93x2 false) .ret))) := by kernel_rfl
  rw [e]
  exact (sh_seq (sh_reg r93x0ok) (sh_seq (sh_reg r93x1ok) (sh_seq (sh_reg r93x2ok) sh_ret)))
def A93 : List FV → Option X8 := fun l => match l with
  | [a] => some (X8.mk [] a .e .e .e .e .e .e .e)
  | _ => none
def L93 : LQ := shal P T8 S93 [.tmp 2] 4000 A93
def E93 : LA := evCall P t1.fa 4000 93
theorem G93 : Good P 93 L93 E93 := good_shal all1 (by kernel_rfl) (show FT P 93 = some (c93v, 8, [.tmp 2]) by kernel_rfl) S93ok (fun l x h => by
    unfold A93 at h
    split at h
    · cases h; exact ⟨by kernel_rfl, by kernel_rfl⟩
    · cases h) 4000
def c108v : Code := bodyOf P 108
def o108x0 : Array Oper := regO (pth [0] c108v)
def r108x0 : RG X4 := fun call yl x s κ => X4.rec (motive := fun _ => MO X4) (fun m a b c d s κ => bxV a 158 s (fun v0 s => κ (X4.mk m a v0 (.o .nf) d) s)) x s κ
theorem r108x0ok : RgOk P false o108x0 T4 r108x0 := fun _ _ x _ _ => by cases x; kernel_rfl
def o108x1 : Array Oper := regO (pth [1, 0] c108v)
def r108x1 : RG X4 := fun call yl x s κ => X4.rec (motive := fun _ => MO X4) (fun m a b c d s κ => makeFuncC 136 [] [b] s (fun v0 s => κ (X4.mk m a b v0 v0) s)) x s κ
theorem r108x1ok : RgOk P false o108x1 T4 r108x1 := fun _ _ x _ _ => by cases x; kernel_rfl
def S108 : SF X4 := (seqS (regS P t1.fq r108x0) (seqS (regS P t1.fq r108x1) retS))
theorem S108ok : Sh P t1.fq T4 c108v S108 := by
  have e : c108v = (.seq (.region 0 o108x0 false) (.seq (.region 1 o108x1 false) .ret)) := by kernel_rfl
  rw [e]
  exact (sh_seq (sh_reg r108x0ok) (sh_seq (sh_reg r108x1ok) sh_ret))
def A108 : List FV → Option X4 := fun l => match l with
  | [a] => some (X4.mk [] a .e .e .e)
  | _ => none
def L108 : LQ := shal P T4 S108 [.tmp 2] 4000 A108
def E108 : LA := evCall P t1.fa 4000 108
theorem G108 : Good P 108 L108 E108 := good_shal all1 (by kernel_rfl) (show FT P 108 = some (c108v, 4, [.tmp 2]) by kernel_rfl) S108ok (fun l x h => by
    unfold A108 at h
    split at h
    · cases h; exact ⟨by kernel_rfl, by kernel_rfl⟩
    · cases h) 4000
def c111v : Code := bodyOf P 111
def o111x0 : Array Oper := regO (pth [0] c111v)
def r111x0 : RG X16 := fun call yl x s κ => X16.rec (motive := fun _ => MO X16) (fun m a b c d f g h i l n o p r t u w s κ => bxV b 45 s (fun v0 s => κ (X16.mk m a b c v0 (.o (.p none)) (.o .nf) h i l n o p r t u w) s)) x s κ
theorem r111x0ok : RgOk P false o111x0 T16 r111x0 := fun _ _ x _ _ => by cases x; kernel_rfl
def o111x1 : Array Oper := regO (pth [1, 0] c111v)
def r111x1 : RG X16 := fun call yl x s κ => X16.rec (motive := fun _ => MO X16) (fun m a b c d f g h i l n o p r t u w s κ => buildC P 193 [(0, a)] s (fun v0 s => bxV v0 193 s (fun v1 s => allocC P 165 s (fun v2 s => stA v2 v1 1 s (fun _ s => κ (X16.mk m a b c d f g v2 a v0 v1 o p r t u w) s))))) x s κ
theorem r111x1ok : RgOk P false o111x1 T16 r111x1 := fun _ _ x _ _ => by cases x; kernel_rfl
def o111x2 : Array Oper := regO (pth [1, 1, 0] c111v)
def r111x2 : RG X16 := fun call yl x s κ => X16.rec (motive := fun _ => MO X16) (fun m a b c d f g h i l n o p r t u w s κ => ldV h false 1 s (fun v0 s => makeFuncC 139 [] [h, d] s (fun v1 s => nilC v0 s (fun v2 s => ptrK v2 1 s (fun v3 s => stA v3 v1 1 s (fun _ s => κ (X16.mk m a b c d f g h i l n v0 v1 v2 v3 u w) s)))))) x s κ
theorem r111x2ok : RgOk P false o111x2 T16 r111x2 := fun _ _ x _ _ => by cases x; kernel_rfl
def o111x3 : Array Oper := regO (pth [1, 1, 1, 0] c111v)
def r111x3 : RG X16 := fun call yl x s κ => X16.rec (motive := fun _ => MO X16) (fun m a b c d f g h i l n o p r t u w s κ => ldV h false 1 s (fun v0 s => makeFuncC 140 [] [h, d] s (fun v1 s => κ (X16.mk m a b c d v0 v1 h i l n o p r t v0 v1) s))) x s κ
theorem r111x3ok : RgOk P false o111x3 T16 r111x3 := fun _ _ x _ _ => by cases x; kernel_rfl
def S111 : SF X16 := (seqS (regS P t1.fq r111x0) (seqS (regS P t1.fq r111x1) (seqS (regS P t1.fq r111x2) (seqS (regS P t1.fq r111x3) retS))))
theorem S111ok : Sh P t1.fq T16 c111v S111 := by
  have e : c111v = (.seq (.region 0 o111x0 false) (.seq (.region 1 o111x1 false) (.seq (.region 2 o111x2 false) (.seq (.region 3 o111x3 false) .ret)))) := by kernel_rfl
  rw [e]
  exact (sh_seq (sh_reg r111x0ok) (sh_seq (sh_reg r111x1ok) (sh_seq (sh_reg r111x2ok) (sh_seq (sh_reg r111x3ok) sh_ret))))
def A111 : List FV → Option X16 := fun l => match l with
  | [a, b] => some (X16.mk [] a b .e .e .e .e .e .e .e .e .e .e .e .e .e .e)
  | _ => none
def L111 : LQ := shal P T16 S111 [.tmp 4, .tmp 5] 4000 A111
def E111 : LA := evCall P t1.fa 4000 111
theorem G111 : Good P 111 L111 E111 := good_shal all1 (by kernel_rfl) (show FT P 111 = some (c111v, 16, [.tmp 4, .tmp 5]) by kernel_rfl) S111ok (fun l x h => by
    unfold A111 at h
    split at h
    · cases h; exact ⟨by kernel_rfl, by kernel_rfl⟩
    · cases h) 4000
def c141v : Code := bodyOf P 141
def o141x0 : Array Oper := regO (pth [0] c141v)
def r141x0 : RG X4 := fun call yl x s κ => X4.rec (motive := fun _ => MO X4) (fun m a b c d s κ => bxV a 45 s (fun v0 s => κ (X4.mk m a v0 (.o .nf) d) s)) x s κ
theorem r141x0ok : RgOk P false o141x0 T4 r141x0 := fun _ _ x _ _ => by cases x; kernel_rfl
def o141x1 : Array Oper := regO (pth [1, 0] c141v)
def r141x1 : RG X4 := fun call yl x s κ => X4.rec (motive := fun _ => MO X4) (fun m a b c d s κ => makeFuncC 160 [] [b] s (fun v0 s => κ (X4.mk m a b v0 v0) s)) x s κ
theorem r141x1ok : RgOk P false o141x1 T4 r141x1 := fun _ _ x _ _ => by cases x; kernel_rfl
def S141 : SF X4 := (seqS (regS P t1.fq r141x0) (seqS (regS P t1.fq r141x1) retS))
theorem S141ok : Sh P t1.fq T4 c141v S141 := by
  have e : c141v = (.seq (.region 0 o141x0 false) (.seq (.region 1 o141x1 false) .ret)) := by kernel_rfl
  rw [e]
  exact (sh_seq (sh_reg r141x0ok) (sh_seq (sh_reg r141x1ok) sh_ret))
def A141 : List FV → Option X4 := fun l => match l with
  | [a] => some (X4.mk [] a .e .e .e)
  | _ => none
def L141 : LQ := shal P T4 S141 [.tmp 2] 4000 A141
def E141 : LA := evCall P t1.fa 4000 141
theorem G141 : Good P 141 L141 E141 := good_shal all1 (by kernel_rfl) (show FT P 141 = some (c141v, 4, [.tmp 2]) by kernel_rfl) S141ok (fun l x h => by
    unfold A141 at h
    split at h
    · cases h; exact ⟨by kernel_rfl, by kernel_rfl⟩
    · cases h) 4000
def t2 : LT := (.n 66 L66 E66 (.n 40 L40 E40 (.n 31 L31 E31 (.n 20 L20 E20 (.n 6 L6 E6 (.n 5 L5 E5 .e .e) (.n 10 L10 E10 .e .e)) (.n 29 L29 E29 (.n 26 L26 E26 .e .e) (.n 30 L30 E30 .e .e))) (.n 35 L35 E35 (.n 33 L33 E33 (.n 32 L32 E32 .e .e) (.n 34 L34 E34 .e .e)) (.n 39 L39 E39 (.n 38 L38 E38 .e .e) .e))) (.n 54 L54 E54 (.n 44 L44 E44 (.n 42 L42 E42 (.n 41 L41 E41 .e .e) (.n 43 L43 E43 .e .e)) (.n 49 L49 E49 (.n 46 L46 E46 .e .e) (.n 53 L53 E53 .e .e))) (.n 62 L62 E62 (.n 57 L57 E57 (.n 55 L55 E55 .e .e) (.n 61 L61 E61 .e .e)) (.n 64 L64 E64 (.n 63 L63 E63 .e .e) .e)))) (.n 99 L99 E99 (.n 81 L81 E81 (.n 72 L72 E72 (.n 69 L69 E69 (.n 68 L68 E68 .e .e) (.n 70 L70 E70 .e .e)) (.n 75 L75 E75 (.n 73 L73 E73 .e .e) (.n 80 L80 E80 .e .e))) (.n 90 L90 E90 (.n 86 L86 E86 (.n 85 L85 E85 .e .e) (.n 89 L89 E89 .e .e)) (.n 93 L93 E93 (.n 92 L92 E92 .e .e) .e))) (.n 118 L118 E118 (.n 110 L110 E110 (.n 108 L108 E108 (.n 102 L102 E102 .e .e) (.n 109 L109 E109 .e .e)) (.n 117 L117 E117 (.n 111 L111 E111 .e .e) .e)) (.n 140 L140 E140 (.n 136 L136 E136 (.n 120 L120 E120 .e .e) (.n 139 L139 E139 .e .e)) (.n 160 L160 E160 (.n 141 L141 E141 .e .e) .e)))))
theorem all2 : t2.all (Good P) := ⟨G66, ⟨G40, ⟨G31, ⟨G20, ⟨G6, ⟨G5, trivial, trivial⟩, ⟨G10, trivial, trivial⟩⟩, ⟨G29, ⟨G26, trivial, trivial⟩, ⟨G30, trivial, trivial⟩⟩⟩, ⟨G35, ⟨G33, ⟨G32, trivial, trivial⟩, ⟨G34, trivial, trivial⟩⟩, ⟨G39, ⟨G38, trivial, trivial⟩, trivial⟩⟩⟩, ⟨G54, ⟨G44, ⟨G42, ⟨G41, trivial, trivial⟩, ⟨G43, trivial, trivial⟩⟩, ⟨G49, ⟨G46, trivial, trivial⟩, ⟨G53, trivial, trivial⟩⟩⟩, ⟨G62, ⟨G57, ⟨G55, trivial, trivial⟩, ⟨G61, trivial, trivial⟩⟩, ⟨G64, ⟨G63, trivial, trivial⟩, trivial⟩⟩⟩⟩, ⟨G99, ⟨G81, ⟨G72, ⟨G69, ⟨G68, trivial, trivial⟩, ⟨G70, trivial, trivial⟩⟩, ⟨G75, ⟨G73, trivial, trivial⟩, ⟨G80, trivial, trivial⟩⟩⟩, ⟨G90, ⟨G86, ⟨G85, trivial, trivial⟩, ⟨G89, trivial, trivial⟩⟩, ⟨G93, ⟨G92, trivial, trivial⟩, trivial⟩⟩⟩, ⟨G118, ⟨G110, ⟨G108, ⟨G102, trivial, trivial⟩, ⟨G109, trivial, trivial⟩⟩, ⟨G117, ⟨G111, trivial, trivial⟩, trivial⟩⟩, ⟨G140, ⟨G136, ⟨G120, trivial, trivial⟩, ⟨G139, trivial, trivial⟩⟩, ⟨G160, ⟨G141, trivial, trivial⟩, trivial⟩⟩⟩⟩⟩
end
end V
end Go.CE
namespace Go.CE
namespace V
set_option maxRecDepth 100000
noncomputable section
variable [Sym] [SymOk]
inductive X82 where
  | mk (m : List Nat) (a b c d f g h i l n o p r t u w y z A B C D E F G H I J K L M N O Q R S T U W Y Z a1 b1 c1 d1 f1 g1 h1 i1 l1 n1 o1 p1 r1 t1 u1 w1 y1 z1 A1 B1 C1 D1 E1 F1 G1 H1 I1 J1 K1 L1 M1 N1 O1 Q1 R1 S1 T1 U1 W1 Y1 Z1 : FV)
def T82 (x : X82) : FF := X82.rec (motive := fun _ => FF) (fun m a b c d f g h i l n o p r t u w y z A B C D E F G H I J K L M N O Q R S T U W Y Z a1 b1 c1 d1 f1 g1 h1 i1 l1 n1 o1 p1 r1 t1 u1 w1 y1 z1 A1 B1 C1 D1 E1 F1 G1 H1 I1 J1 K1 L1 M1 N1 O1 Q1 R1 S1 T1 U1 W1 Y1 Z1 => ⟨(.n a (.n b (.n g (.n D .e .e .e .e) (.n U .e .e .e .e) (.n r1 .e .e .e .e) (.n K1 .e .e .e .e)) (.n n (.n H .e .e .e .e) (.n a1 .e .e .e .e) (.n y1 .e .e .e .e) (.n O1 .e .e .e .e)) (.n t (.n L .e .e .e .e) (.n f1 .e .e .e .e) (.n C1 .e .e .e .e) (.n T1 .e .e .e .e)) (.n z (.n Q .e .e .e .e) (.n l1 .e .e .e .e) (.n G1 .e .e .e .e) (.n Z1 .e .e .e .e))) (.n c (.n h (.n E .e .e .e .e) (.n W .e .e .e .e) (.n t1 .e .e .e .e) (.n L1 .e .e .e .e)) (.n o (.n I .e .e .e .e) (.n b1 .e .e .e .e) (.n z1 .e .e .e .e) (.n Q1 .e .e .e .e)) (.n u (.n M .e .e .e .e) (.n g1 .e .e .e .e) (.n D1 .e .e .e .e) (.n U1 .e .e .e .e)) (.n A (.n R .e .e .e .e) (.n n1 .e .e .e .e) (.n H1 .e .e .e .e) .e)) (.n d (.n i (.n F .e .e .e .e) (.n Y .e .e .e .e) (.n u1 .e .e .e .e) (.n M1 .e .e .e .e)) (.n p (.n J .e .e .e .e) (.n c1 .e .e .e .e) (.n A1 .e .e .e .e) (.n R1 .e .e .e .e)) (.n w (.n N .e .e .e .e) (.n h1 .e .e .e .e) (.n E1 .e .e .e .e) (.n W1 .e .e .e .e)) (.n B (.n S .e .e .e .e) (.n o1 .e .e .e .e) (.n I1 .e .e .e .e) .e)) (.n f (.n l (.n G .e .e .e .e) (.n Z .e .e .e .e) (.n w1 .e .e .e .e) (.n N1 .e .e .e .e)) (.n r (.n K .e .e .e .e) (.n d1 .e .e .e .e) (.n B1 .e .e .e .e) (.n S1 .e .e .e .e)) (.n y (.n O .e .e .e .e) (.n i1 .e .e .e .e) (.n F1 .e .e .e .e) (.n Y1 .e .e .e .e)) (.n C (.n T .e .e .e .e) (.n p1 .e .e .e .e) (.n J1 .e .e .e .e) .e))), 82, m⟩) x
def c17v : Code := bodyOf P 17
def o17x0 : Array Oper := regO (pth [0] c17v)
def r17x0 : RG X82 := fun call yl x s κ => X82.rec (motive := fun _ => MO X82) (fun m a b c d f g h i l n o p r t u w y z A B C D E F G H I J K L M N O Q R S T U W Y Z a1 b1 c1 d1 f1 g1 h1 i1 l1 n1 o1 p1 r1 t1 u1 w1 y1 z1 A1 B1 C1 D1 E1 F1 G1 H1 I1 J1 K1 L1 M1 N1 O1 Q1 R1 S1 T1 U1 W1 Y1 Z1 s κ => bxV a 26 s (fun v0 s => κ (X82.mk m a v0 (.b false) d f g h i l n o p r t u w y z A B C D E F G H I J K L M N O Q R S T U W Y Z a1 b1 c1 d1 f1 g1 h1 i1 l1 n1 o1 p1 r1 t1 u1 w1 y1 z1 A1 B1 C1 D1 E1 F1 G1 H1 I1 J1 K1 L1 M1 N1 O1 Q1 R1 S1 T1 U1 W1 Y1 Z1) s)) x s κ
theorem r17x0ok : RgOk P false o17x0 T82 r17x0 := fun _ _ x _ _ => by cases x; kernel_rfl
def o17x1 : Array Oper := regO (pth [1, 0, 0] c17v)
def r17x1 : RG X82 := fun call yl x s κ => X82.rec (motive := fun _ => MO X82) (fun m a b c d f g h i l n o p r t u w y z A B C D E F G H I J K L M N O Q R S T U W Y Z a1 b1 c1 d1 f1 g1 h1 i1 l1 n1 o1 p1 r1 t1 u1 w1 y1 z1 A1 B1 C1 D1 E1 F1 G1 H1 I1 J1 K1 L1 M1 N1 O1 Q1 R1 S1 T1 U1 W1 Y1 Z1 s κ => ptrK b 1 s (fun v0 s => ldV v0 false 1 s (fun v1 s => binC v1 (.i .i64 1) 3 .lss P s (fun v2 s => bnk (fun κ1 => wantC v2 false (ptrK b 1 s (κ1)) (κ1 .e s)) (fun v3 s => bnk (fun κ1 => wantC v2 false (ldV v3 false 1 s (κ1)) (κ1 .e s)) (fun v4 s => bnk (fun κ1 => wantC v2 false (binC v4 (.i .i64 1099511627776) 3 .gtr P s (κ1)) (κ1 .e s)) (fun v5 s => bnk (fun κ0 => condB v2 (κ0 (.b true) s) (κ0 v5 s)) (fun v6 s => bnk (fun κ1 => wantC v6 false (ptrK b 2 s (κ1)) (κ1 .e s)) (fun v7 s => bnk (fun κ1 => wantC v6 false (ldV v7 false 1 s (κ1)) (κ1 .e s)) (fun v8 s => bnk (fun κ1 => wantC v6 false (call 39 [v8] s (κ1)) (κ1 .e s)) (fun v9 s => bnk (fun κ1 => wantC v6 false (notC v9 s (κ1)) (κ1 .e s)) (fun v10 s => bnk (fun κ0 => condB v6 (κ0 (.b true) s) (κ0 v10 s)) (fun v11 s => bnk (fun κ1 => wantC v11 false (ptrK b 3 s (κ1)) (κ1 .e s)) (fun v12 s => bnk (fun κ1 => wantC v11 false (ldV v12 false 1 s (κ1)) (κ1 .e s)) (fun v13 s => bnk (fun κ1 => wantC v11 false (binC v13 (.i .i64 0) 3 .lss P s (κ1)) (κ1 .e s)) (fun v14 s => bnk (fun κ0 => condB v11 (κ0 (.b true) s) (κ0 v14 s)) (fun v15 s => bnk (fun κ1 => wantC v15 false (ptrK b 3 s (κ1)) (κ1 .e s)) (fun v16 s => bnk (fun κ1 => wantC v15 false (ldV v16 false 1 s (κ1)) (κ1 .e s)) (fun v17 s => bnk (fun κ1 => wantC v15 false (binC v17 (.i .i64 2251799813685248) 3 .gtr P s (κ1)) (κ1 .e s)) (fun v18 s => bnk (fun κ0 => condB v15 (κ0 (.b true) s) (κ0 v18 s)) (fun v19 s => κ (X82.mk m a b c d f v0 v1 v2 v2 v3 v4 v5 v6 v6 v7 v8 v9 v10 v11 v11 v12 v13 v14 v15 v15 v16 v17 v18 v19 L M N O Q R S T U W Y Z a1 b1 c1 d1 f1 g1 h1 i1 l1 n1 o1 p1 r1 t1 u1 w1 y1 z1 A1 B1 C1 D1 E1 F1 G1 H1 I1 J1 K1 L1 M1 N1 O1 Q1 R1 S1 T1 U1 W1 Y1 Z1) s))))))))))))))))))))) x s κ
theorem r17x1ok : RgOk P false o17x1 T82 r17x1 := fun _ _ x _ _ => by cases x; kernel_rfl
def o17x2 : Array Oper := regO (pth [1, 0, 1, 0, 0] c17v)
def r17x2 : RG X82 := fun call yl x s κ => X82.rec (motive := fun _ => MO X82) (fun m a b c d f g h i l n o p r t u w y z A B C D E F G H I J K L M N O Q R S T U W Y Z a1 b1 c1 d1 f1 g1 h1 i1 l1 n1 o1 p1 r1 t1 u1 w1 y1 z1 A1 B1 C1 D1 E1 F1 G1 H1 I1 J1 K1 L1 M1 N1 O1 Q1 R1 S1 T1 U1 W1 Y1 Z1 s κ => κ (X82.mk m a b (.b false) d f g h i l n o p r t u w y z A B C D E F G H I J K L M N O Q R S T U W Y Z a1 b1 c1 d1 f1 g1 h1 i1 l1 n1 o1 p1 r1 t1 u1 w1 y1 z1 A1 B1 C1 D1 E1 F1 G1 H1 I1 J1 K1 L1 M1 N1 O1 Q1 R1 S1 T1 U1 W1 Y1 Z1) s) x s κ
theorem r17x2ok : RgOk P false o17x2 T82 r17x2 := fun _ _ x _ _ => by cases x; kernel_rfl
def o17x3 : Array Oper := regO (pth [1, 1, 0, 0] c17v)
def r17x3 : RG X82 := fun call yl x s κ => X82.rec (motive := fun _ => MO X82) (fun m a b c d f g h i l n o p r t u w y z A B C D E F G H I J K L M N O Q R S T U W Y Z a1 b1 c1 d1 f1 g1 h1 i1 l1 n1 o1 p1 r1 t1 u1 w1 y1 z1 A1 B1 C1 D1 E1 F1 G1 H1 I1 J1 K1 L1 M1 N1 O1 Q1 R1 S1 T1 U1 W1 Y1 Z1 s κ => ptrK b 5 s (fun v0 s => ldV v0 false 1 s (fun v1 s => lenC v1 P 23 s (fun v2 s => κ (X82.mk m a b c d f g h i l n o p r t u w y z A B C D E F G H I J K v0 v1 v2 (.i .i64 0) Q R S T U W Y Z a1 b1 c1 d1 f1 g1 h1 i1 l1 n1 o1 p1 r1 t1 u1 w1 y1 z1 A1 B1 C1 D1 E1 F1 G1 H1 I1 J1 K1 L1 M1 N1 O1 Q1 R1 S1 T1 U1 W1 Y1 Z1) s)))) x s κ
theorem r17x3ok : RgOk P false o17x3 T82 r17x3 := fun _ _ x _ _ => by cases x; kernel_rfl
def o17x4 : Array Oper := regO (pth [1, 1, 0, 1, 0, 0, 0] c17v)
def r17x4 : RG X82 := fun call yl x s κ => X82.rec (motive := fun _ => MO X82) (fun m a b c d f g h i l n o p r t u w y z A B C D E F G H I J K L M N O Q R S T U W Y Z a1 b1 c1 d1 f1 g1 h1 i1 l1 n1 o1 p1 r1 t1 u1 w1 y1 z1 A1 B1 C1 D1 E1 F1 G1 H1 I1 J1 K1 L1 M1 N1 O1 Q1 R1 S1 T1 U1 W1 Y1 Z1 s κ => binC O N 3 .lss P s (fun v0 s => κ (X82.mk m a b c d f g h i l n o p r t u w y z A B C D E F G H I J K L M N O v0 R S T U W Y Z a1 b1 c1 d1 f1 g1 h1 i1 l1 n1 o1 p1 r1 t1 u1 w1 y1 z1 A1 B1 C1 D1 E1 F1 G1 H1 I1 J1 K1 L1 M1 N1 O1 Q1 R1 S1 T1 U1 W1 Y1 Z1) s)) x s κ
theorem r17x4ok : RgOk P false o17x4 T82 r17x4 := fun _ _ x _ _ => by cases x; kernel_rfl
def o17x5 : Array Oper := regO (pth [1, 1, 0, 1, 0, 0, 1, 1, 0, 0, 0] c17v)
def r17x5 : RG X82 := fun call yl x s κ => X82.rec (motive := fun _ => MO X82) (fun m a b c d f g h i l n o p r t u w y z A B C D E F G H I J K L M N O Q R S T U W Y Z a1 b1 c1 d1 f1 g1 h1 i1 l1 n1 o1 p1 r1 t1 u1 w1 y1 z1 A1 B1 C1 D1 E1 F1 G1 H1 I1 J1 K1 L1 M1 N1 O1 Q1 R1 S1 T1 U1 W1 Y1 Z1 s κ => natK O fun j => iaS M j 1 s (fun v0 s => ldV v0 false 1 s (fun v1 s => κ (X82.mk m a b c O v1 g h i l n o p r t u w y z A B C D E F G H I J K L M N O Q O v0 v1 U W Y Z a1 b1 c1 d1 f1 g1 h1 i1 l1 n1 o1 p1 r1 t1 u1 w1 y1 z1 A1 B1 C1 D1 E1 F1 G1 H1 I1 J1 K1 L1 M1 N1 O1 Q1 R1 S1 T1 U1 W1 Y1 Z1) s))) x s κ
theorem r17x5ok : RgOk P false o17x5 T82 r17x5 := fun _ _ x _ _ => by cases x; kernel_rfl
def o17x6 : Array Oper := regO (pth [1, 1, 0, 1, 0, 0, 1, 1, 0, 0, 1, 0] c17v)
def r17x6 : RG X82 := fun call yl x s κ => X82.rec (motive := fun _ => MO X82) (fun m a b c d f g h i l n o p r t u w y z A B C D E F G H I J K L M N O Q R S T U W Y Z a1 b1 c1 d1 f1 g1 h1 i1 l1 n1 o1 p1 r1 t1 u1 w1 y1 z1 A1 B1 C1 D1 E1 F1 G1 H1 I1 J1 K1 L1 M1 N1 O1 Q1 R1 S1 T1 U1 W1 Y1 Z1 s κ => call 39 [f] s (fun v0 s => notC v0 s (fun v1 s => bnk (fun κ1 => wantC v1 false (κ1 d s) (κ1 .e s)) (fun v2 s => bnk (fun κ1 => wantC v1 false (binC v2 (.i .i64 0) 3 .gtr P s (κ1)) (κ1 .e s)) (fun v3 s => bnk (fun κ1 => wantC v1 false (κ1 v3 s) (κ1 .e s)) (fun v4 s => bnk (fun κ1 => wantC v4 true (κ1 f s) (κ1 .e s)) (fun v5 s => bnk (fun κ1 => wantC v4 true (ptrK b 5 s (κ1)) (κ1 .e s)) (fun v6 s => bnk (fun κ1 => wantC v4 true (ldV v6 false 1 s (κ1)) (κ1 .e s)) (fun v7 s => bnk (fun κ1 => wantC v4 true (κ1 d s) (κ1 .e s)) (fun v8 s => bnk (fun κ1 => wantC v4 true (binC v8 (.i .i64 1) 3 .sub P s (κ1)) (κ1 .e s)) (fun v9 s => bnk (fun κ1 => wantC v4 true (natK v9 fun j => iaS v7 j 1 s (κ1)) (κ1 .e s)) (fun v10 s => bnk (fun κ1 => wantC v4 true (ldV v10 false 1 s (κ1)) (κ1 .e s)) (fun v11 s => bnk (fun κ1 => wantC v4 true (binC v5 v11 3 .leq P s (κ1)) (κ1 .e s)) (fun v12 s => bnk (fun κ1 => wantC v1 false (bnk (fun κ0 => condB v4 (κ0 v12 s) (κ0 (.b false) s)) (κ1)) (κ1 .e s)) (fun v13 s => bnk (fun κ0 => condB v1 (κ0 (.b true) s) (κ0 v13 s)) (fun v14 s => κ (X82.mk m a b c d f g h i l n o p r t u w y z A B C D E F G H I J K L M N O Q R S T f v0 v1 v1 v2 v3 v4 v5 v6 v7 v8 v9 v10 v11 v12 v13 v14 t1 u1 w1 y1 z1 A1 B1 C1 D1 E1 F1 G1 H1 I1 J1 K1 L1 M1 N1 O1 Q1 R1 S1 T1 U1 W1 Y1 Z1) s)))))))))))))))) x s κ
theorem r17x6ok : RgOk P false o17x6 T82 r17x6 := fun _ _ x _ _ => by cases x; kernel_rfl
def o17x7 : Array Oper := regO (pth [1, 1, 0, 1, 0, 0, 1, 1, 0, 0, 1, 1, 0, 0] c17v)
def r17x7 : RG X82 := fun call yl x s κ => X82.rec (motive := fun _ => MO X82) (fun m a b c d f g h i l n o p r t u w y z A B C D E F G H I J K L M N O Q R S T U W Y Z a1 b1 c1 d1 f1 g1 h1 i1 l1 n1 o1 p1 r1 t1 u1 w1 y1 z1 A1 B1 C1 D1 E1 F1 G1 H1 I1 J1 K1 L1 M1 N1 O1 Q1 R1 S1 T1 U1 W1 Y1 Z1 s κ => κ (X82.mk m a b (.b false) d f g h i l n o p r t u w y z A B C D E F G H I J K L M N O Q R S T U W Y Z a1 b1 c1 d1 f1 g1 h1 i1 l1 n1 o1 p1 r1 t1 u1 w1 y1 z1 A1 B1 C1 D1 E1 F1 G1 H1 I1 J1 K1 L1 M1 N1 O1 Q1 R1 S1 T1 U1 W1 Y1 Z1) s) x s κ
theorem r17x7ok : RgOk P false o17x7 T82 r17x7 := fun _ _ x _ _ => by cases x; kernel_rfl
def o17x8 : Array Oper := regO (pth [1, 1, 0, 1, 0, 0, 1, 1, 1] c17v)
def r17x8 : RG X82 := fun call yl x s κ => X82.rec (motive := fun _ => MO X82) (fun m a b c d f g h i l n o p r t u w y z A B C D E F G H I J K L M N O Q R S T U W Y Z a1 b1 c1 d1 f1 g1 h1 i1 l1 n1 o1 p1 r1 t1 u1 w1 y1 z1 A1 B1 C1 D1 E1 F1 G1 H1 I1 J1 K1 L1 M1 N1 O1 Q1 R1 S1 T1 U1 W1 Y1 Z1 s κ => binC O (.i .i64 1) 3 .add P s (fun v0 s => κ (X82.mk m a b c d f g h i l n o p r t u w y z A B C D E F G H I J K L M N v0 Q R S T U W Y Z a1 b1 c1 d1 f1 g1 h1 i1 l1 n1 o1 p1 r1 v0 u1 w1 y1 z1 A1 B1 C1 D1 E1 F1 G1 H1 I1 J1 K1 L1 M1 N1 O1 Q1 R1 S1 T1 U1 W1 Y1 Z1) s)) x s κ
theorem r17x8ok : RgOk P false o17x8 T82 r17x8 := fun _ _ x _ _ => by cases x; kernel_rfl
def o17x9 : Array Oper := regO (pth [1, 1, 1, 0, 0] c17v)
def r17x9 : RG X82 := fun call yl x s κ => X82.rec (motive := fun _ => MO X82) (fun m a b c d f g h i l n o p r t u w y z A B C D E F G H I J K L M N O Q R S T U W Y Z a1 b1 c1 d1 f1 g1 h1 i1 l1 n1 o1 p1 r1 t1 u1 w1 y1 z1 A1 B1 C1 D1 E1 F1 G1 H1 I1 J1 K1 L1 M1 N1 O1 Q1 R1 S1 T1 U1 W1 Y1 Z1 s κ => ptrK b 4 s (fun v0 s => ldV v0 false 1 s (fun v1 s => κ (X82.mk m a b c d f g h i l n o p r t u w y z A B C D E F G H I J K L M N O Q R S T U W Y Z a1 b1 c1 d1 f1 g1 h1 i1 l1 n1 o1 p1 r1 t1 v0 v1 y1 z1 A1 B1 C1 D1 E1 F1 G1 H1 I1 J1 K1 L1 M1 N1 O1 Q1 R1 S1 T1 U1 W1 Y1 Z1) s))) x s κ
theorem r17x9ok : RgOk P false o17x9 T82 r17x9 := fun _ _ x _ _ => by cases x; kernel_rfl
def o17x10 : Array Oper := regO (pth [1, 1, 1, 0, 1, 0, 0, 0] c17v)
def r17x10 : RG X82 := fun call yl x s κ => X82.rec (motive := fun _ => MO X82) (fun m a b c d f g h i l n o p r t u w y z A B C D E F G H I J K L M N O Q R S T U W Y Z a1 b1 c1 d1 f1 g1 h1 i1 l1 n1 o1 p1 r1 t1 u1 w1 y1 z1 A1 B1 C1 D1 E1 F1 G1 H1 I1 J1 K1 L1 M1 N1 O1 Q1 R1 S1 T1 U1 W1 Y1 Z1 s κ => binC w1 (.i .i64 0) 3 .eql P s (fun v0 s => κ (X82.mk m a b c d f g h i l n o p r t u w y z A B C D E F G H I J K L M N O Q R S T U W Y Z a1 b1 c1 d1 f1 g1 h1 i1 l1 n1 o1 p1 r1 t1 u1 w1 v0 v0 A1 B1 C1 D1 E1 F1 G1 H1 I1 J1 K1 L1 M1 N1 O1 Q1 R1 S1 T1 U1 W1 Y1 Z1) s)) x s κ
theorem r17x10ok : RgOk P false o17x10 T82 r17x10 := fun _ _ x _ _ => by cases x; kernel_rfl
def o17x11 : Array Oper := regO (pth [1, 1, 1, 0, 1, 0, 0, 1, 1, 0] c17v)
def r17x11 : RG X82 := fun call yl x s κ => X82.rec (motive := fun _ => MO X82) (fun m a b c d f g h i l n o p r t u w y z A B C D E F G H I J K L M N O Q R S T U W Y Z a1 b1 c1 d1 f1 g1 h1 i1 l1 n1 o1 p1 r1 t1 u1 w1 y1 z1 A1 B1 C1 D1 E1 F1 G1 H1 I1 J1 K1 L1 M1 N1 O1 Q1 R1 S1 T1 U1 W1 Y1 Z1 s κ => binC w1 (.i .i64 2) 3 .eql P s (fun v0 s => κ (X82.mk m a b c d f g h i l n o p r t u w y z A B C D E F G H I J K L M N O Q R S T U W Y Z a1 b1 c1 d1 f1 g1 h1 i1 l1 n1 o1 p1 r1 t1 u1 w1 v0 z1 v0 B1 C1 D1 E1 F1 G1 H1 I1 J1 K1 L1 M1 N1 O1 Q1 R1 S1 T1 U1 W1 Y1 Z1) s)) x s κ
theorem r17x11ok : RgOk P false o17x11 T82 r17x11 := fun _ _ x _ _ => by cases x; kernel_rfl
def o17x12 : Array Oper := regO (pth [1, 1, 1, 0, 1, 0, 0, 1, 1, 1, 1, 0] c17v)
def r17x12 : RG X82 := fun call yl x s κ => X82.rec (motive := fun _ => MO X82) (fun m a b c d f g h i l n o p r t u w y z A B C D E F G H I J K L M N O Q R S T U W Y Z a1 b1 c1 d1 f1 g1 h1 i1 l1 n1 o1 p1 r1 t1 u1 w1 y1 z1 A1 B1 C1 D1 E1 F1 G1 H1 I1 J1 K1 L1 M1 N1 O1 Q1 R1 S1 T1 U1 W1 Y1 Z1 s κ => binC w1 (.i .i64 3) 3 .eql P s (fun v0 s => κ (X82.mk m a b c d f g h i l n o p r t u w y z A B C D E F G H I J K L M N O Q R S T U W Y Z a1 b1 c1 d1 f1 g1 h1 i1 l1 n1 o1 p1 r1 t1 u1 w1 v0 z1 A1 v0 C1 D1 E1 F1 G1 H1 I1 J1 K1 L1 M1 N1 O1 Q1 R1 S1 T1 U1 W1 Y1 Z1) s)) x s κ
theorem r17x12ok : RgOk P false o17x12 T82 r17x12 := fun _ _ x _ _ => by cases x; kernel_rfl
def o17x13 : Array Oper := regO (pth [1, 1, 1, 0, 1, 0, 0, 1, 1, 1, 1, 1, 1, 0] c17v)
def r17x13 : RG X82 := fun call yl x s κ => X82.rec (motive := fun _ => MO X82) (fun m a b c d f g h i l n o p r t u w y z A B C D E F G H I J K L M N O Q R S T U W Y Z a1 b1 c1 d1 f1 g1 h1 i1 l1 n1 o1 p1 r1 t1 u1 w1 y1 z1 A1 B1 C1 D1 E1 F1 G1 H1 I1 J1 K1 L1 M1 N1 O1 Q1 R1 S1 T1 U1 W1 Y1 Z1 s κ => binC w1 (.i .i64 4) 3 .eql P s (fun v0 s => κ (X82.mk m a b c d f g h i l n o p r t u w y z A B C D E F G H I J K L M N O Q R S T U W Y Z a1 b1 c1 d1 f1 g1 h1 i1 l1 n1 o1 p1 r1 t1 u1 w1 v0 z1 A1 B1 v0 D1 E1 F1 G1 H1 I1 J1 K1 L1 M1 N1 O1 Q1 R1 S1 T1 U1 W1 Y1 Z1) s)) x s κ
theorem r17x13ok : RgOk P false o17x13 T82 r17x13 := fun _ _ x _ _ => by cases x; kernel_rfl
def o17x14 : Array Oper := regO (pth [1, 1, 1, 0, 1, 0, 0, 1, 1, 1, 1, 1, 1, 1, 1] c17v)
def r17x14 : RG X82 := fun call yl x s κ => X82.rec (motive := fun _ => MO X82) (fun m a b c d f g h i l n o p r t u w y z A B C D E F G H I J K L M N O Q R S T U W Y Z a1 b1 c1 d1 f1 g1 h1 i1 l1 n1 o1 p1 r1 t1 u1 w1 y1 z1 A1 B1 C1 D1 E1 F1 G1 H1 I1 J1 K1 L1 M1 N1 O1 Q1 R1 S1 T1 U1 W1 Y1 Z1 s κ => binC w1 (.i .i64 5) 3 .eql P s (fun v0 s => κ (X82.mk m a b c d f g h i l n o p r t u w y z A B C D E F G H I J K L M N O Q R S T U W Y Z a1 b1 c1 d1 f1 g1 h1 i1 l1 n1 o1 p1 r1 t1 u1 w1 v0 z1 A1 B1 C1 v0 E1 F1 G1 H1 I1 J1 K1 L1 M1 N1 O1 Q1 R1 S1 T1 U1 W1 Y1 Z1) s)) x s κ
theorem r17x14ok : RgOk P false o17x14 T82 r17x14 := fun _ _ x _ _ => by cases x; kernel_rfl
def o17x15 : Array Oper := regO (pth [1, 1, 1, 0, 1, 0, 1, 0, 0] c17v)
def r17x15 : RG X82 := fun call yl x s κ => X82.rec (motive := fun _ => MO X82) (fun m a b c d f g h i l n o p r t u w y z A B C D E F G H I J K L M N O Q R S T U W Y Z a1 b1 c1 d1 f1 g1 h1 i1 l1 n1 o1 p1 r1 t1 u1 w1 y1 z1 A1 B1 C1 D1 E1 F1 G1 H1 I1 J1 K1 L1 M1 N1 O1 Q1 R1 S1 T1 U1 W1 Y1 Z1 s κ => ptrK b 5 s (fun v0 s => ldV v0 false 1 s (fun v1 s => lenC v1 P 23 s (fun v2 s => binC v2 (.i .i64 16) 3 .lss P s (fun v3 s => bnk (fun κ1 => wantC v3 true (ptrK b 5 s (κ1)) (κ1 .e s)) (fun v4 s => bnk (fun κ1 => wantC v3 true (ldV v4 false 1 s (κ1)) (κ1 .e s)) (fun v5 s => bnk (fun κ1 => wantC v3 true (ptrK b 0 s (κ1)) (κ1 .e s)) (fun v6 s => bnk (fun κ1 => wantC v3 true (ldV v6 false 1 s (κ1)) (κ1 .e s)) (fun v7 s => bnk (fun κ1 => wantC v3 true (call 40 [v5, v7] s (κ1)) (κ1 .e s)) (fun v8 s => bnk (fun κ0 => condB v3 (κ0 v8 s) (κ0 (.b false) s)) (fun v9 s => bnk (fun κ1 => wantC v9 true (ptrK b 5 s (κ1)) (κ1 .e s)) (fun v10 s => bnk (fun κ1 => wantC v9 true (ldV v10 false 1 s (κ1)) (κ1 .e s)) (fun v11 s => bnk (fun κ1 => wantC v9 true (ptrK b 2 s (κ1)) (κ1 .e s)) (fun v12 s => bnk (fun κ1 => wantC v9 true (ldV v12 false 1 s (κ1)) (κ1 .e s)) (fun v13 s => bnk (fun κ1 => wantC v9 true (call 40 [v11, v13] s (κ1)) (κ1 .e s)) (fun v14 s => bnk (fun κ1 => wantC v9 true (notC v14 s (κ1)) (κ1 .e s)) (fun v15 s => bnk (fun κ0 => condB v9 (κ0 v15 s) (κ0 (.b false) s)) (fun v16 s => κ (X82.mk m a b v16 d f g h i l n o p r t u w y z A B C D E F G H I J K L M N O Q R S T U W Y Z a1 b1 c1 d1 f1 g1 h1 i1 l1 n1 o1 p1 r1 t1 u1 w1 y1 z1 A1 B1 C1 D1 v0 v1 v2 v3 v3 v4 v5 v6 v7 v8 v9 v9 v10 v11 v12 v13 v14 v15 v16) s)))))))))))))))))) x s κ
theorem r17x15ok : RgOk P false o17x15 T82 r17x15 := fun _ _ x _ _ => by cases x; kernel_rfl
def o17x16 : Array Oper := regO (pth [1, 1, 1, 1, 0] c17v)
def r17x16 : RG X82 := fun call yl x s κ => X82.rec (motive := fun _ => MO X82) (fun m a b c d f g h i l n o p r t u w y z A B C D E F G H I J K L M N O Q R S T U W Y Z a1 b1 c1 d1 f1 g1 h1 i1 l1 n1 o1 p1 r1 t1 u1 w1 y1 z1 A1 B1 C1 D1 E1 F1 G1 H1 I1 J1 K1 L1 M1 N1 O1 Q1 R1 S1 T1 U1 W1 Y1 Z1 s κ => κ (X82.mk m a b (.b false) d f g h i l n o p r t u w y z A B C D E F G H I J K L M N O Q R S T U W Y Z a1 b1 c1 d1 f1 g1 h1 i1 l1 n1 o1 p1 r1 t1 u1 w1 y1 z1 A1 B1 C1 D1 E1 F1 G1 H1 I1 J1 K1 L1 M1 N1 O1 Q1 R1 S1 T1 U1 W1 Y1 Z1) s) x s κ
theorem r17x16ok : RgOk P false o17x16 T82 r17x16 := fun _ _ x _ _ => by cases x; kernel_rfl
def S17 : SF X82 := (seqS (regS P t2.fq r17x0) (seqS (seqS (regS P t2.fq r17x1) (condS (fun x => X82.rec (motive := fun _ => FV) (fun _ _ _ _ _ _ _ _ _ _ _ _ _ _ _ _ _ _ _ _ _ _ _ _ _ _ _ _ _ z _ _ _ _ _ _ _ _ _ _ _ _ _ _ _ _ _ _ _ _ _ _ _ _ _ _ _ _ _ _ _ _ _ _ _ _ _ _ _ _ _ _ _ _ _ _ _ _ _ _ _ _ _ => z) x) (seqS (regS P t2.fq r17x2) retS) skipS)) (seqS (seqS (regS P t2.fq r17x3) (blkS 0 (loopS (seqS (regS P t2.fq r17x4) (seqS (condS (fun x => X82.rec (motive := fun _ => FV) (fun _ _ _ _ _ _ _ _ _ _ _ _ _ _ _ _ _ _ _ _ _ _ _ _ _ _ _ _ _ _ _ _ _ _ z _ _ _ _ _ _ _ _ _ _ _ _ _ _ _ _ _ _ _ _ _ _ _ _ _ _ _ _ _ _ _ _ _ _ _ _ _ _ _ _ _ _ _ _ _ _ _ _ => z) x) skipS (exitS 0)) (seqS (blkS 1 (seqS (regS P t2.fq r17x5) (seqS (regS P t2.fq r17x6) (condS (fun x => X82.rec (motive := fun _ => FV) (fun _ _ _ _ _ _ _ _ _ _ _ _ _ _ _ _ _ _ _ _ _ _ _ _ _ _ _ _ _ _ _ _ _ _ _ _ _ _ _ _ _ _ _ _ _ _ _ _ _ _ _ _ _ _ z _ _ _ _ _ _ _ _ _ _ _ _ _ _ _ _ _ _ _ _ _ _ _ _ _ _ _ _ => z) x) (seqS (regS P t2.fq r17x7) retS) skipS)))) (regS P t2.fq r17x8))))))) (seqS (seqS (regS P t2.fq r17x9) (blkS 2 (seqS (seqS (regS P t2.fq r17x10) (condS (fun x => X82.rec (motive := fun _ => FV) (fun _ _ _ _ _ _ _ _ _ _ _ _ _ _ _ _ _ _ _ _ _ _ _ _ _ _ _ _ _ _ _ _ _ _ _ _ _ _ _ _ _ _ _ _ _ _ _ _ _ _ _ _ _ _ _ _ _ _ z _ _ _ _ _ _ _ _ _ _ _ _ _ _ _ _ _ _ _ _ _ _ _ _ => z) x) skipS (seqS (regS P t2.fq r17x11) (condS (fun x => X82.rec (motive := fun _ => FV) (fun _ _ _ _ _ _ _ _ _ _ _ _ _ _ _ _ _ _ _ _ _ _ _ _ _ _ _ _ _ _ _ _ _ _ _ _ _ _ _ _ _ _ _ _ _ _ _ _ _ _ _ _ _ _ _ _ _ _ z _ _ _ _ _ _ _ _ _ _ _ _ _ _ _ _ _ _ _ _ _ _ _ _ => z) x) skipS (seqS (regS P t2.fq r17x12) (condS (fun x => X82.rec (motive := fun _ => FV) (fun _ _ _ _ _ _ _ _ _ _ _ _ _ _ _ _ _ _ _ _ _ _ _ _ _ _ _ _ _ _ _ _ _ _ _ _ _ _ _ _ _ _ _ _ _ _ _ _ _ _ _ _ _ _ _ _ _ _ z _ _ _ _ _ _ _ _ _ _ _ _ _ _ _ _ _ _ _ _ _ _ _ _ => z) x) skipS (seqS (regS P t2.fq r17x13) (condS (fun x => X82.rec (motive := fun _ => FV) (fun _ _ _ _ _ _ _ _ _ _ _ _ _ _ _ _ _ _ _ _ _ _ _ _ _ _ _ _ _ _ _ _ _ _ _ _ _ _ _ _ _ _ _ _ _ _ _ _ _ _ _ _ _ _ _ _ _ _ z _ _ _ _ _ _ _ _ _ _ _ _ _ _ _ _ _ _ _ _ _ _ _ _ => z) x) skipS (regS P t2.fq r17x14))))))))) (condS (fun x => X82.rec (motive := fun _ => FV) (fun _ _ _ _ _ _ _ _ _ _ _ _ _ _ _ _ _ _ _ _ _ _ _ _ _ _ _ _ _ _ _ _ _ _ _ _ _ _ _ _ _ _ _ _ _ _ _ _ _ _ _ _ _ _ _ _ _ _ z _ _ _ _ _ _ _ _ _ _ _ _ _ _ _ _ _ _ _ _ _ _ _ _ => z) x) (seqS (regS P t2.fq r17x15) retS) skipS)))) (seqS (regS P t2.fq r17x16) retS)))))
theorem S17ok : Sh P t2.fq T82 c17v S17 := by
  have e : c17v = (.seq (.region 0 o17x0 false) (.seq (.seq (.region 1 o17x1 false) (.cond (.tmp 28) (.seq (.region 2 o17x2 false) .ret) .skip)) (.seq (.seq (.region 3 o17x3 false) (.block 0 (.loop (.seq (.region 4 o17x4 false) (.seq (.cond (.tmp 33) .skip (.exit 0)) (.seq (.block 1 (.seq (.region 5 o17x5 false) (.seq (.region 6 o17x6 false) (.cond (.tmp 53) (.seq (.region 7 o17x7 false) .ret) .skip)))) (.region 8 o17x8 false))))))) (.seq (.seq (.region 9 o17x9 false) (.block 2 (.seq (.seq (.region 10 o17x10 false) (.cond (.tmp 57) .skip (.seq (.region 11 o17x11 false) (.cond (.tmp 57) .skip (.seq (.region 12 o17x12 false) (.cond (.tmp 57) .skip (.seq (.region 13 o17x13 false) (.cond (.tmp 57) .skip (.region 14 o17x14 false))))))))) (.cond (.tmp 57) (.seq (.region 15 o17x15 false) .ret) .skip)))) (.seq (.region 16 o17x16 false) .ret))))) := by kernel_rfl
  rw [e]
  exact (sh_seq (sh_reg r17x0ok) (sh_seq (sh_seq (sh_reg r17x1ok) (sh_cond (fun x => by cases x; rfl) (sh_seq (sh_reg r17x2ok) sh_ret) sh_skip)) (sh_seq (sh_seq (sh_reg r17x3ok) (sh_blk 0 (sh_loop (sh_seq (sh_reg r17x4ok) (sh_seq (sh_cond (fun x => by cases x; rfl) sh_skip (sh_exit 0)) (sh_seq (sh_blk 1 (sh_seq (sh_reg r17x5ok) (sh_seq (sh_reg r17x6ok) (sh_cond (fun x => by cases x; rfl) (sh_seq (sh_reg r17x7ok) sh_ret) sh_skip)))) (sh_reg r17x8ok))))))) (sh_seq (sh_seq (sh_reg r17x9ok) (sh_blk 2 (sh_seq (sh_seq (sh_reg r17x10ok) (sh_cond (fun x => by cases x; rfl) sh_skip (sh_seq (sh_reg r17x11ok) (sh_cond (fun x => by cases x; rfl) sh_skip (sh_seq (sh_reg r17x12ok) (sh_cond (fun x => by cases x; rfl) sh_skip (sh_seq (sh_reg r17x13ok) (sh_cond (fun x => by cases x; rfl) sh_skip (sh_reg r17x14ok))))))))) (sh_cond (fun x => by cases x; rfl) (sh_seq (sh_reg r17x15ok) sh_ret) sh_skip)))) (sh_seq (sh_reg r17x16ok) sh_ret)))))
def A17 : List FV → Option X82 := fun l => match l with
  | [a] => some (X82.mk [] a .e .e .e .e .e .e .e .e .e .e .e .e .e .e .e .e .e .e .e .e .e .e .e .e .e .e .e .e .e .e .e .e .e .e .e .e .e .e .e .e .e .e .e .e .e .e .e .e .e .e .e .e .e .e .e .e .e .e .e .e .e .e .e .e .e .e .e .e .e .e .e .e .e .e .e .e .e .e .e .e .e)
  | _ => none
def L17 : LQ := shal P T82 S17 [.tmp 2] 4000 A17
def E17 : LA := evCall P t2.fa 4000 17
theorem G17 : Good P 17 L17 E17 := good_shal all2 (by kernel_rfl) (show FT P 17 = some (c17v, 82, [.tmp 2]) by kernel_rfl) S17ok (fun l x h => by
    unfold A17 at h
    split at h
    · cases h; exact ⟨by kernel_rfl, by kernel_rfl⟩
    · cases h) 4000
def c18v : Code := bodyOf P 18
def o18x0 : Array Oper := regO (pth [0] c18v)
def r18x0 : RG X15 := fun call yl x s κ => X15.rec (motive := fun _ => MO X15) (fun m a b c d f g h i l n o p r t u s κ => bxV a 26 s (fun v0 s => κ (X15.mk m a b v0 d (.b false) g h i l n o p r t u) s)) x s κ
theorem r18x0ok : RgOk P false o18x0 T15 r18x0 := fun _ _ x _ _ => by cases x; kernel_rfl
def o18x1 : Array Oper := regO (pth [1, 0] c18v)
def r18x1 : RG X15 := fun call yl x s κ => X15.rec (motive := fun _ => MO X15) (fun m a b c d f g h i l n o p r t u s κ => ptrK c 0 s (fun v0 s => ldV v0 false 1 s (fun v1 s => binC b v1 3 .neq P s (fun v2 s => bnk (fun κ1 => wantC v2 true (ptrK c 5 s (κ1)) (κ1 .e s)) (fun v3 s => bnk (fun κ1 => wantC v2 true (ldV v3 false 1 s (κ1)) (κ1 .e s)) (fun v4 s => bnk (fun κ1 => wantC v2 true (κ1 b s) (κ1 .e s)) (fun v5 s => bnk (fun κ1 => wantC v2 true (call 40 [v4, v5] s (κ1)) (κ1 .e s)) (fun v6 s => bnk (fun κ0 => condB v2 (κ0 v6 s) (κ0 (.b false) s)) (fun v7 s => κ (X15.mk m a b c d v7 b v0 v1 v2 v2 v3 v4 v5 v6 v7) s))))))))) x s κ
theorem r18x1ok : RgOk P false o18x1 T15 r18x1 := fun _ _ x _ _ => by cases x; kernel_rfl
def S18 : SF X15 := (seqS (regS P t2.fq r18x0) (seqS (regS P t2.fq r18x1) retS))
theorem S18ok : Sh P t2.fq T15 c18v S18 := by
  have e : c18v = (.seq (.region 0 o18x0 false) (.seq (.region 1 o18x1 false) .ret)) := by kernel_rfl
  rw [e]
  exact (sh_seq (sh_reg r18x0ok) (sh_seq (sh_reg r18x1ok) sh_ret))
def A18 : List FV → Option X15 := fun l => match l with
  | [a, b] => some (X15.mk [] a b .e .e .e .e .e .e .e .e .e .e .e .e .e)
  | _ => none
def L18 : LQ := shal P T15 S18 [.tmp 4] 4000 A18
def E18 : LA := evCall P t2.fa 4000 18
theorem G18 : Good P 18 L18 E18 := good_shal all2 (by kernel_rfl) (show FT P 18 = some (c18v, 15, [.tmp 4]) by kernel_rfl) S18ok (fun l x h => by
    unfold A18 at h
    split at h
    · cases h; exact ⟨by kernel_rfl, by kernel_rfl⟩
    · cases h) 4000
inductive X113 where
  | mk (m : List Nat) (a b c d f g h i l n o p r t u w y z A B C D E F G H I J K L M N O Q R S T U W Y Z a1 b1 c1 d1 f1 g1 h1 i1 l1 n1 o1 p1 r1 t1 u1 w1 y1 z1 A1 B1 C1 D1 E1 F1 G1 H1 I1 J1 K1 L1 M1 N1 O1 Q1 R1 S1 T1 U1 W1 Y1 Z1 a2 b2 c2 d2 f2 g2 h2 i2 l2 n2 o2 p2 r2 t2 u2 w2 y2 z2 A2 B2 C2 D2 E2 F2 G2 H2 I2 J2 K2 L2 M2 : FV)
def T113 (x : X113) : FF := X113.rec (motive := fun _ => FF) (fun m a b c d f g h i l n o p r t u w y z A B C D E F G H I J K L M N O Q R S T U W Y Z a1 b1 c1 d1 f1 g1 h1 i1 l1 n1 o1 p1 r1 t1 u1 w1 y1 z1 A1 B1 C1 D1 E1 F1 G1 H1 I1 J1 K1 L1 M1 N1 O1 Q1 R1 S1 T1 U1 W1 Y1 Z1 a2 b2 c2 d2 f2 g2 h2 i2 l2 n2 o2 p2 r2 t2 u2 w2 y2 z2 A2 B2 C2 D2 E2 F2 G2 H2 I2 J2 K2 L2 M2 => ⟨(.n a (.n b (.n g (.n D (.n d2 .e .e .e .e) .e .e .e) (.n U (.n B2 .e .e .e .e) .e .e .e) (.n r1 .e .e .e .e) (.n K1 .e .e .e .e)) (.n n (.n H (.n i2 .e .e .e .e) .e .e .e) (.n a1 (.n F2 .e .e .e .e) .e .e .e) (.n y1 .e .e .e .e) (.n O1 .e .e .e .e)) (.n t (.n L (.n p2 .e .e .e .e) .e .e .e) (.n f1 (.n J2 .e .e .e .e) .e .e .e) (.n C1 .e .e .e .e) (.n T1 .e .e .e .e)) (.n z (.n Q (.n w2 .e .e .e .e) .e .e .e) (.n l1 .e .e .e .e) (.n G1 .e .e .e .e) (.n Z1 .e .e .e .e))) (.n c (.n h (.n E (.n f2 .e .e .e .e) .e .e .e) (.n W (.n C2 .e .e .e .e) .e .e .e) (.n t1 .e .e .e .e) (.n L1 .e .e .e .e)) (.n o (.n I (.n l2 .e .e .e .e) .e .e .e) (.n b1 (.n G2 .e .e .e .e) .e .e .e) (.n z1 .e .e .e .e) (.n Q1 .e .e .e .e)) (.n u (.n M (.n r2 .e .e .e .e) .e .e .e) (.n g1 (.n K2 .e .e .e .e) .e .e .e) (.n D1 .e .e .e .e) (.n U1 .e .e .e .e)) (.n A (.n R (.n y2 .e .e .e .e) .e .e .e) (.n n1 .e .e .e .e) (.n H1 .e .e .e .e) (.n a2 .e .e .e .e))) (.n d (.n i (.n F (.n g2 .e .e .e .e) .e .e .e) (.n Y (.n D2 .e .e .e .e) .e .e .e) (.n u1 .e .e .e .e) (.n M1 .e .e .e .e)) (.n p (.n J (.n n2 .e .e .e .e) .e .e .e) (.n c1 (.n H2 .e .e .e .e) .e .e .e) (.n A1 .e .e .e .e) (.n R1 .e .e .e .e)) (.n w (.n N (.n t2 .e .e .e .e) .e .e .e) (.n h1 (.n L2 .e .e .e .e) .e .e .e) (.n E1 .e .e .e .e) (.n W1 .e .e .e .e)) (.n B (.n S (.n z2 .e .e .e .e) .e .e .e) (.n o1 .e .e .e .e) (.n I1 .e .e .e .e) (.n b2 .e .e .e .e))) (.n f (.n l (.n G (.n h2 .e .e .e .e) .e .e .e) (.n Z (.n E2 .e .e .e .e) .e .e .e) (.n w1 .e .e .e .e) (.n N1 .e .e .e .e)) (.n r (.n K (.n o2 .e .e .e .e) .e .e .e) (.n d1 (.n I2 .e .e .e .e) .e .e .e) (.n B1 .e .e .e .e) (.n S1 .e .e .e .e)) (.n y (.n O (.n u2 .e .e .e .e) .e .e .e) (.n i1 (.n M2 .e .e .e .e) .e .e .e) (.n F1 .e .e .e .e) (.n Y1 .e .e .e .e)) (.n C (.n T (.n A2 .e .e .e .e) .e .e .e) (.n p1 .e .e .e .e) (.n J1 .e .e .e .e) (.n c2 .e .e .e .e)))), 113, m⟩) x
def c19v : Code := bodyOf P 19
def o19x0 : Array Oper := regO (pth [0] c19v)
def r19x0 : RG X113 := fun call yl x s κ => X113.rec (motive := fun _ => MO X113) (fun m a b c d f g h i l n o p r t u w y z A B C D E F G H I J K L M N O Q R S T U W Y Z a1 b1 c1 d1 f1 g1 h1 i1 l1 n1 o1 p1 r1 t1 u1 w1 y1 z1 A1 B1 C1 D1 E1 F1 G1 H1 I1 J1 K1 L1 M1 N1 O1 Q1 R1 S1 T1 U1 W1 Y1 Z1 a2 b2 c2 d2 f2 g2 h2 i2 l2 n2 o2 p2 r2 t2 u2 w2 y2 z2 A2 B2 C2 D2 E2 F2 G2 H2 I2 J2 K2 L2 M2 s κ => bxV a 40 s (fun v0 s => bxV b 40 s (fun v1 s => κ (X113.mk m a b v0 v1 (.b false) g h i l n o p r t u w y z A B C D E F G H I J K L M N O Q R S T U W Y Z a1 b1 c1 d1 f1 g1 h1 i1 l1 n1 o1 p1 r1 t1 u1 w1 y1 z1 A1 B1 C1 D1 E1 F1 G1 H1 I1 J1 K1 L1 M1 N1 O1 Q1 R1 S1 T1 U1 W1 Y1 Z1 a2 b2 c2 d2 f2 g2 h2 i2 l2 n2 o2 p2 r2 t2 u2 w2 y2 z2 A2 B2 C2 D2 E2 F2 G2 H2 I2 J2 K2 L2 M2) s))) x s κ
theorem r19x0ok : RgOk P false o19x0 T113 r19x0 := fun _ _ x _ _ => by cases x; kernel_rfl
def o19x1 : Array Oper := regO (pth [1, 0] c19v)
def r19x1 : RG X113 := fun call yl x s κ => X113.rec (motive := fun _ => MO X113) (fun m a b c d f g h i l n o p r t u w y z A B C D E F G H I J K L M N O Q R S T U W Y Z a1 b1 c1 d1 f1 g1 h1 i1 l1 n1 o1 p1 r1 t1 u1 w1 y1 z1 A1 B1 C1 D1 E1 F1 G1 H1 I1 J1 K1 L1 M1 N1 O1 Q1 R1 S1 T1 U1 W1 Y1 Z1 a2 b2 c2 d2 f2 g2 h2 i2 l2 n2 o2 p2 r2 t2 u2 w2 y2 z2 A2 B2 C2 D2 E2 F2 G2 H2 I2 J2 K2 L2 M2 s κ => call 41 [c] s (fun v0 s => call 41 [d] s (fun v1 s => allocC P 88 s (fun v2 s => allocC P 88 s (fun v3 s => stA v2 v0 17 s (fun _ s => stA v3 v1 17 s (fun _ s => κ (X113.mk m a b c d f v2 v3 i l n v0 v1 r t u w y z A B C D E F G H I J K L M N O Q R S T U W Y Z a1 b1 c1 d1 f1 g1 h1 i1 l1 n1 o1 p1 r1 t1 u1 w1 y1 z1 A1 B1 C1 D1 E1 F1 G1 H1 I1 J1 K1 L1 M1 N1 O1 Q1 R1 S1 T1 U1 W1 Y1 Z1 a2 b2 c2 d2 f2 g2 h2 i2 l2 n2 o2 p2 r2 t2 u2 w2 y2 z2 A2 B2 C2 D2 E2 F2 G2 H2 I2 J2 K2 L2 M2) s))))))) x s κ
theorem r19x1ok : RgOk P false o19x1 T113 r19x1 := fun _ _ x _ _ => by cases x; kernel_rfl
def o19x2 : Array Oper := regO (pth [1, 1, 0, 0] c19v)
def r19x2 : RG X113 := fun call yl x s κ => X113.rec (motive := fun _ => MO X113) (fun m a b c d f g h i l n o p r t u w y z A B C D E F G H I J K L M N O Q R S T U W Y Z a1 b1 c1 d1 f1 g1 h1 i1 l1 n1 o1 p1 r1 t1 u1 w1 y1 z1 A1 B1 C1 D1 E1 F1 G1 H1 I1 J1 K1 L1 M1 N1 O1 Q1 R1 S1 T1 U1 W1 Y1 Z1 a2 b2 c2 d2 f2 g2 h2 i2 l2 n2 o2 p2 r2 t2 u2 w2 y2 z2 A2 B2 C2 D2 E2 F2 G2 H2 I2 J2 K2 L2 M2 s κ => κ (X113.mk m a b c d f g h i l n o p (.i .i64 0) t u w y z A B C D E F G H I J K L M N O Q R S T U W Y Z a1 b1 c1 d1 f1 g1 h1 i1 l1 n1 o1 p1 r1 t1 u1 w1 y1 z1 A1 B1 C1 D1 E1 F1 G1 H1 I1 J1 K1 L1 M1 N1 O1 Q1 R1 S1 T1 U1 W1 Y1 Z1 a2 b2 c2 d2 f2 g2 h2 i2 l2 n2 o2 p2 r2 t2 u2 w2 y2 z2 A2 B2 C2 D2 E2 F2 G2 H2 I2 J2 K2 L2 M2) s) x s κ
theorem r19x2ok : RgOk P false o19x2 T113 r19x2 := fun _ _ x _ _ => by cases x; kernel_rfl
def o19x3 : Array Oper := regO (pth [1, 1, 0, 1, 0, 0, 0] c19v)
def r19x3 : RG X113 := fun call yl x s κ => X113.rec (motive := fun _ => MO X113) (fun m a b c d f g h i l n o p r t u w y z A B C D E F G H I J K L M N O Q R S T U W Y Z a1 b1 c1 d1 f1 g1 h1 i1 l1 n1 o1 p1 r1 t1 u1 w1 y1 z1 A1 B1 C1 D1 E1 F1 G1 H1 I1 J1 K1 L1 M1 N1 O1 Q1 R1 S1 T1 U1 W1 Y1 Z1 a2 b2 c2 d2 f2 g2 h2 i2 l2 n2 o2 p2 r2 t2 u2 w2 y2 z2 A2 B2 C2 D2 E2 F2 G2 H2 I2 J2 K2 L2 M2 s κ => binC r (.i .i64 17) 91 .lss P s (fun v0 s => κ (X113.mk m a b c d f g h i l n o p r v0 u w y z A B C D E F G H I J K L M N O Q R S T U W Y Z a1 b1 c1 d1 f1 g1 h1 i1 l1 n1 o1 p1 r1 t1 u1 w1 y1 z1 A1 B1 C1 D1 E1 F1 G1 H1 I1 J1 K1 L1 M1 N1 O1 Q1 R1 S1 T1 U1 W1 Y1 Z1 a2 b2 c2 d2 f2 g2 h2 i2 l2 n2 o2 p2 r2 t2 u2 w2 y2 z2 A2 B2 C2 D2 E2 F2 G2 H2 I2 J2 K2 L2 M2) s)) x s κ
theorem r19x3ok : RgOk P false o19x3 T113 r19x3 := fun _ _ x _ _ => by cases x; kernel_rfl
def o19x4 : Array Oper := regO (pth [1, 1, 0, 1, 0, 0, 1, 1, 0, 0, 0] c19v)
def r19x4 : RG X113 := fun call yl x s κ => X113.rec (motive := fun _ => MO X113) (fun m a b c d f g h i l n o p r t u w y z A B C D E F G H I J K L M N O Q R S T U W Y Z a1 b1 c1 d1 f1 g1 h1 i1 l1 n1 o1 p1 r1 t1 u1 w1 y1 z1 A1 B1 C1 D1 E1 F1 G1 H1 I1 J1 K1 L1 M1 N1 O1 Q1 R1 S1 T1 U1 W1 Y1 Z1 a2 b2 c2 d2 f2 g2 h2 i2 l2 n2 o2 p2 r2 t2 u2 w2 y2 z2 A2 B2 C2 D2 E2 F2 G2 H2 I2 J2 K2 L2 M2 s κ => κ (X113.mk m a b c d f g h r l n o p r t r w y z A B C D E F G H I J K L M N O Q R S T U W Y Z a1 b1 c1 d1 f1 g1 h1 i1 l1 n1 o1 p1 r1 t1 u1 w1 y1 z1 A1 B1 C1 D1 E1 F1 G1 H1 I1 J1 K1 L1 M1 N1 O1 Q1 R1 S1 T1 U1 W1 Y1 Z1 a2 b2 c2 d2 f2 g2 h2 i2 l2 n2 o2 p2 r2 t2 u2 w2 y2 z2 A2 B2 C2 D2 E2 F2 G2 H2 I2 J2 K2 L2 M2) s) x s κ
theorem r19x4ok : RgOk P false o19x4 T113 r19x4 := fun _ _ x _ _ => by cases x; kernel_rfl
def o19x5 : Array Oper := regO (pth [1, 1, 0, 1, 0, 0, 1, 1, 0, 0, 1, 0] c19v)
def r19x5 : RG X113 := fun call yl x s κ => X113.rec (motive := fun _ => MO X113) (fun m a b c d f g h i l n o p r t u w y z A B C D E F G H I J K L M N O Q R S T U W Y Z a1 b1 c1 d1 f1 g1 h1 i1 l1 n1 o1 p1 r1 t1 u1 w1 y1 z1 A1 B1 C1 D1 E1 F1 G1 H1 I1 J1 K1 L1 M1 N1 O1 Q1 R1 S1 T1 U1 W1 Y1 Z1 a2 b2 c2 d2 f2 g2 h2 i2 l2 n2 o2 p2 r2 t2 u2 w2 y2 z2 A2 B2 C2 D2 E2 F2 G2 H2 I2 J2 K2 L2 M2 s κ => (fun qv0 => sandS (fun s κ1 => natK i fun j => iaP g 17 j 1 s (κ1)) s (fun qv1 v2 s => sandS (fun s κ1 => ldV v2 false 1 s (κ1)) s (fun qv3 v4 s => sandS (fun s κ1 => binC v4 (.o (.p none)) 87 .neq P s (κ1)) s (fun qv5 v6 s => (fun qv7 => sandS (fun s κ1 => bnk (fun κ1 => wantC v6 true (κ1 i s) (κ1 .e s)) κ1) s (fun qv8 v9 s => sandS (fun s κ1 => bnk (fun κ1 => wantC v6 true (natK v9 fun j => iaP g 17 j 1 s (κ1)) (κ1 .e s)) κ1) s (fun qv10 v11 s => sandS (fun s κ1 => bnk (fun κ1 => wantC v6 true (ldV v11 false 1 s (κ1)) (κ1 .e s)) κ1) s (fun qv12 v13 s => sandS (fun s κ1 => bnk (fun κ1 => wantC v6 true (nilC v13 s (κ1)) (κ1 .e s)) κ1) s (fun qv14 v15 s => sandS (fun s κ1 => bnk (fun κ1 => wantC v6 true (ldV v15 false 1 s (κ1)) (κ1 .e s)) κ1) s (fun qv16 v17 s => sandS (fun s κ1 => bnk (fun κ1 => wantC v6 true (κ1 i s) (κ1 .e s)) κ1) s (fun qv18 v19 s => sandS (fun s κ1 => bnk (fun κ1 => wantC v6 true (natK v19 fun j => iaP h 17 j 1 s (κ1)) (κ1 .e s)) κ1) s (fun qv20 v21 s => sandS (fun s κ1 => bnk (fun κ1 => wantC v6 true (ldV v21 false 1 s (κ1)) (κ1 .e s)) κ1) s (fun qv22 v23 s => sandS (fun s κ1 => bnk (fun κ1 => wantC v6 true (nilC v23 s (κ1)) (κ1 .e s)) κ1) s (fun qv24 v25 s => sandS (fun s κ1 => bnk (fun κ1 => wantC v6 true (ldV v25 false 1 s (κ1)) (κ1 .e s)) κ1) s (fun qv26 v27 s => sandS (fun s κ1 => bnk (fun κ1 => wantC v6 true (binC v17 v27 3 .neq P s (κ1)) (κ1 .e s)) κ1) s (fun qv28 v29 s => sandS (fun s κ1 => bnk (fun κ0 => condB v6 (κ0 v29 s) (κ0 (.b false) s)) (κ1)) s (fun qv30 v31 s => V.iff (dynA [] [qv0, qv1, qv3, qv5, qv7, qv8, qv10, qv12, qv14, qv16, qv18, qv20, qv22, qv24, qv26, qv28, qv30] [[], [false], [false, false], [false, false, false], [false, false, false, false], [false, false, false, false, false], [false, false, false, false, false, false], [false, false, false, false, false, false, false], [false, false, false, false, false, false, false, false], [false, false, false, false, false, false, false, false, false], [false, false, false, false, false, true, true, true, true, true], [false, false, false, false, false, true, true, true, true, true, false], [false, false, false, false, false, true, true, true, true, true, false, false], [false, false, false, false, false, true, true, true, true, true, false, false, false], [false, false, false, false, false, true, true, true, true, true, false, false, false, false], [false, false, false, false, false, false, false, false, false, false, false, false, false, false, false], [false, false, false, false, false, false, false, false, false, false, false, false, false, false, false, false]]) (κ (X113.mk m a b c d f g h i l n o p r t u i v2 v4 v6 v6 v9 v11 v13 v15 v17 v19 v21 v23 v25 v27 v29 v31 O Q R S T U W Y Z a1 b1 c1 d1 f1 g1 h1 i1 l1 n1 o1 p1 r1 t1 u1 w1 y1 z1 A1 B1 C1 D1 E1 F1 G1 H1 I1 J1 K1 L1 M1 N1 O1 Q1 R1 S1 T1 U1 W1 Y1 Z1 a2 b2 c2 d2 f2 g2 h2 i2 l2 n2 o2 p2 r2 t2 u2 w2 y2 z2 A2 B2 C2 D2 E2 F2 G2 H2 I2 J2 K2 L2 M2) s)))))))))))))) (qz s))))) (qz s)) x s κ
theorem r19x5ok : RgOk P true o19x5 T113 r19x5 := fun _ _ x _ _ => by cases x; kernel_rfl
def o19x6 : Array Oper := regO (pth [1, 1, 0, 1, 0, 0, 1, 1, 0, 0, 1, 1, 0, 0] c19v)
def r19x6 : RG X113 := fun call yl x s κ => X113.rec (motive := fun _ => MO X113) (fun m a b c d f g h i l n o p r t u w y z A B C D E F G H I J K L M N O Q R S T U W Y Z a1 b1 c1 d1 f1 g1 h1 i1 l1 n1 o1 p1 r1 t1 u1 w1 y1 z1 A1 B1 C1 D1 E1 F1 G1 H1 I1 J1 K1 L1 M1 N1 O1 Q1 R1 S1 T1 U1 W1 Y1 Z1 a2 b2 c2 d2 f2 g2 h2 i2 l2 n2 o2 p2 r2 t2 u2 w2 y2 z2 A2 B2 C2 D2 E2 F2 G2 H2 I2 J2 K2 L2 M2 s κ => κ (X113.mk m a b c d (.b false) g h i l n o p r t u w y z A B C D E F G H I J K L M N O Q R S T U W Y Z a1 b1 c1 d1 f1 g1 h1 i1 l1 n1 o1 p1 r1 t1 u1 w1 y1 z1 A1 B1 C1 D1 E1 F1 G1 H1 I1 J1 K1 L1 M1 N1 O1 Q1 R1 S1 T1 U1 W1 Y1 Z1 a2 b2 c2 d2 f2 g2 h2 i2 l2 n2 o2 p2 r2 t2 u2 w2 y2 z2 A2 B2 C2 D2 E2 F2 G2 H2 I2 J2 K2 L2 M2) s) x s κ
theorem r19x6ok : RgOk P false o19x6 T113 r19x6 := fun _ _ x _ _ => by cases x; kernel_rfl
def o19x7 : Array Oper := regO (pth [1, 1, 0, 1, 0, 0, 1, 1, 1] c19v)
def r19x7 : RG X113 := fun call yl x s κ => X113.rec (motive := fun _ => MO X113) (fun m a b c d f g h i l n o p r t u w y z A B C D E F G H I J K L M N O Q R S T U W Y Z a1 b1 c1 d1 f1 g1 h1 i1 l1 n1 o1 p1 r1 t1 u1 w1 y1 z1 A1 B1 C1 D1 E1 F1 G1 H1 I1 J1 K1 L1 M1 N1 O1 Q1 R1 S1 T1 U1 W1 Y1 Z1 a2 b2 c2 d2 f2 g2 h2 i2 l2 n2 o2 p2 r2 t2 u2 w2 y2 z2 A2 B2 C2 D2 E2 F2 G2 H2 I2 J2 K2 L2 M2 s κ => binC r (.i .i64 1) 91 .add P s (fun v0 s => κ (X113.mk m a b c d f g h i l n o p v0 t u w y z A B C D E F G H I J K L M N v0 Q R S T U W Y Z a1 b1 c1 d1 f1 g1 h1 i1 l1 n1 o1 p1 r1 t1 u1 w1 y1 z1 A1 B1 C1 D1 E1 F1 G1 H1 I1 J1 K1 L1 M1 N1 O1 Q1 R1 S1 T1 U1 W1 Y1 Z1 a2 b2 c2 d2 f2 g2 h2 i2 l2 n2 o2 p2 r2 t2 u2 w2 y2 z2 A2 B2 C2 D2 E2 F2 G2 H2 I2 J2 K2 L2 M2) s)) x s κ
theorem r19x7ok : RgOk P false o19x7 T113 r19x7 := fun _ _ x _ _ => by cases x; kernel_rfl
def o19x8 : Array Oper := regO (pth [1, 1, 1, 0] c19v)
def r19x8 : RG X113 := fun call yl x s κ => X113.rec (motive := fun _ => MO X113) (fun m a b c d f g h i l n o p r t u w y z A B C D E F G H I J K L M N O Q R S T U W Y Z a1 b1 c1 d1 f1 g1 h1 i1 l1 n1 o1 p1 r1 t1 u1 w1 y1 z1 A1 B1 C1 D1 E1 F1 G1 H1 I1 J1 K1 L1 M1 N1 O1 Q1 R1 S1 T1 U1 W1 Y1 Z1 a2 b2 c2 d2 f2 g2 h2 i2 l2 n2 o2 p2 r2 t2 u2 w2 y2 z2 A2 B2 C2 D2 E2 F2 G2 H2 I2 J2 K2 L2 M2 s κ => sandS (fun s κ1 => ptrK c 17 s (κ1)) s (fun qv0 v1 s => sandS (fun s κ1 => ldV v1 true 7 s (κ1)) s (fun qv2 v3 s => sandS (fun s κ1 => ptrK d 17 s (κ1)) s (fun qv4 v5 s => sandS (fun s κ1 => ldV v5 true 7 s (κ1)) s (fun qv6 v7 s => sandS (fun s κ1 => allocC P 34 s (κ1)) s (fun qv8 v9 s => sandS (fun s κ1 => allocC P 34 s (κ1)) s (fun qv10 v11 s => sandS (fun s κ1 => stA v9 v3 7 s (κ1)) s (fun qv12 v13 s => sandS (fun s κ1 => stA v11 v7 7 s (κ1)) s (fun qv14 v15 s => V.iff (dynA [] [qv0, qv2, qv4, qv6, qv8, qv10, qv12, qv14] [[], [false], [true, true], [true, true, false], [true, true, true, true], [true, true, true, true, true], [false, false, true, true, false, false], [false, false, false, false, false, false, false]]) (κ (X113.mk m a b c d f g h i v9 v11 o p r t u w y z A B C D E F G H I J K L M N O v1 v3 v5 v7 U W Y Z a1 b1 c1 d1 f1 g1 h1 i1 l1 n1 o1 p1 r1 t1 u1 w1 y1 z1 A1 B1 C1 D1 E1 F1 G1 H1 I1 J1 K1 L1 M1 N1 O1 Q1 R1 S1 T1 U1 W1 Y1 Z1 a2 b2 c2 d2 f2 g2 h2 i2 l2 n2 o2 p2 r2 t2 u2 w2 y2 z2 A2 B2 C2 D2 E2 F2 G2 H2 I2 J2 K2 L2 M2) s)))))))))) x s κ
theorem r19x8ok : RgOk P true o19x8 T113 r19x8 := fun _ _ x _ _ => by cases x; kernel_rfl
def o19x9 : Array Oper := regO (pth [1, 1, 1, 1, 0, 0, 0, 0] c19v)
def r19x9 : RG X113 := fun call yl x s κ => X113.rec (motive := fun _ => MO X113) (fun m a b c d f g h i l n o p r t u w y z A B C D E F G H I J K L M N O Q R S T U W Y Z a1 b1 c1 d1 f1 g1 h1 i1 l1 n1 o1 p1 r1 t1 u1 w1 y1 z1 A1 B1 C1 D1 E1 F1 G1 H1 I1 J1 K1 L1 M1 N1 O1 Q1 R1 S1 T1 U1 W1 Y1 Z1 a2 b2 c2 d2 f2 g2 h2 i2 l2 n2 o2 p2 r2 t2 u2 w2 y2 z2 A2 B2 C2 D2 E2 F2 G2 H2 I2 J2 K2 L2 M2 s κ => ptrK c 0 s (fun v0 s => ldV v0 false 1 s (fun v1 s => ptrK d 0 s (fun v2 s => ldV v2 false 1 s (fun v3 s => binC v1 v3 3 .neq P s (fun v4 s => κ (X113.mk m a b c d f g h i l n o p r t u w y z A B C D E F G H I J K L M N O Q R S T v4 v0 v1 v2 v3 v4 c1 d1 f1 g1 h1 i1 l1 n1 o1 p1 r1 t1 u1 w1 y1 z1 A1 B1 C1 D1 E1 F1 G1 H1 I1 J1 K1 L1 M1 N1 O1 Q1 R1 S1 T1 U1 W1 Y1 Z1 a2 b2 c2 d2 f2 g2 h2 i2 l2 n2 o2 p2 r2 t2 u2 w2 y2 z2 A2 B2 C2 D2 E2 F2 G2 H2 I2 J2 K2 L2 M2) s)))))) x s κ
theorem r19x9ok : RgOk P false o19x9 T113 r19x9 := fun _ _ x _ _ => by cases x; kernel_rfl
def o19x10 : Array Oper := regO (pth [1, 1, 1, 1, 0, 0, 0, 1, 1, 0] c19v)
def r19x10 : RG X113 := fun call yl x s κ => X113.rec (motive := fun _ => MO X113) (fun m a b c d f g h i l n o p r t u w y z A B C D E F G H I J K L M N O Q R S T U W Y Z a1 b1 c1 d1 f1 g1 h1 i1 l1 n1 o1 p1 r1 t1 u1 w1 y1 z1 A1 B1 C1 D1 E1 F1 G1 H1 I1 J1 K1 L1 M1 N1 O1 Q1 R1 S1 T1 U1 W1 Y1 Z1 a2 b2 c2 d2 f2 g2 h2 i2 l2 n2 o2 p2 r2 t2 u2 w2 y2 z2 A2 B2 C2 D2 E2 F2 G2 H2 I2 J2 K2 L2 M2 s κ => ptrK c 1 s (fun v0 s => ldV v0 false 1 s (fun v1 s => ptrK d 1 s (fun v2 s => ldV v2 false 1 s (fun v3 s => binC v1 v3 3 .neq P s (fun v4 s => κ (X113.mk m a b c d f g h i l n o p r t u w y z A B C D E F G H I J K L M N O Q R S T v4 W Y Z a1 b1 v0 v1 v2 v3 v4 i1 l1 n1 o1 p1 r1 t1 u1 w1 y1 z1 A1 B1 C1 D1 E1 F1 G1 H1 I1 J1 K1 L1 M1 N1 O1 Q1 R1 S1 T1 U1 W1 Y1 Z1 a2 b2 c2 d2 f2 g2 h2 i2 l2 n2 o2 p2 r2 t2 u2 w2 y2 z2 A2 B2 C2 D2 E2 F2 G2 H2 I2 J2 K2 L2 M2) s)))))) x s κ
theorem r19x10ok : RgOk P false o19x10 T113 r19x10 := fun _ _ x _ _ => by cases x; kernel_rfl
def o19x11 : Array Oper := regO (pth [1, 1, 1, 1, 0, 0, 0, 1, 1, 1, 1, 0] c19v)
def r19x11 : RG X113 := fun call yl x s κ => X113.rec (motive := fun _ => MO X113) (fun m a b c d f g h i l n o p r t u w y z A B C D E F G H I J K L M N O Q R S T U W Y Z a1 b1 c1 d1 f1 g1 h1 i1 l1 n1 o1 p1 r1 t1 u1 w1 y1 z1 A1 B1 C1 D1 E1 F1 G1 H1 I1 J1 K1 L1 M1 N1 O1 Q1 R1 S1 T1 U1 W1 Y1 Z1 a2 b2 c2 d2 f2 g2 h2 i2 l2 n2 o2 p2 r2 t2 u2 w2 y2 z2 A2 B2 C2 D2 E2 F2 G2 H2 I2 J2 K2 L2 M2 s κ => ptrK c 2 s (fun v0 s => ldV v0 false 1 s (fun v1 s => ptrK d 2 s (fun v2 s => ldV v2 false 1 s (fun v3 s => binC v1 v3 3 .neq P s (fun v4 s => κ (X113.mk m a b c d f g h i l n o p r t u w y z A B C D E F G H I J K L M N O Q R S T v4 W Y Z a1 b1 c1 d1 f1 g1 h1 v0 v1 v2 v3 v4 r1 t1 u1 w1 y1 z1 A1 B1 C1 D1 E1 F1 G1 H1 I1 J1 K1 L1 M1 N1 O1 Q1 R1 S1 T1 U1 W1 Y1 Z1 a2 b2 c2 d2 f2 g2 h2 i2 l2 n2 o2 p2 r2 t2 u2 w2 y2 z2 A2 B2 C2 D2 E2 F2 G2 H2 I2 J2 K2 L2 M2) s)))))) x s κ
theorem r19x11ok : RgOk P false o19x11 T113 r19x11 := fun _ _ x _ _ => by cases x; kernel_rfl
def o19x12 : Array Oper := regO (pth [1, 1, 1, 1, 0, 0, 0, 1, 1, 1, 1, 1, 1, 0] c19v)
def r19x12 : RG X113 := fun call yl x s κ => X113.rec (motive := fun _ => MO X113) (fun m a b c d f g h i l n o p r t u w y z A B C D E F G H I J K L M N O Q R S T U W Y Z a1 b1 c1 d1 f1 g1 h1 i1 l1 n1 o1 p1 r1 t1 u1 w1 y1 z1 A1 B1 C1 D1 E1 F1 G1 H1 I1 J1 K1 L1 M1 N1 O1 Q1 R1 S1 T1 U1 W1 Y1 Z1 a2 b2 c2 d2 f2 g2 h2 i2 l2 n2 o2 p2 r2 t2 u2 w2 y2 z2 A2 B2 C2 D2 E2 F2 G2 H2 I2 J2 K2 L2 M2 s κ => ptrK c 12 s (fun v0 s => ldV v0 true 5 s (fun v1 s => ptrK d 12 s (fun v2 s => ldV v2 true 5 s (fun v3 s => binC v1 v3 29 .neq P s (fun v4 s => κ (X113.mk m a b c d f g h i l n o p r t u w y z A B C D E F G H I J K L M N O Q R S T v4 W Y Z a1 b1 c1 d1 f1 g1 h1 i1 l1 n1 o1 p1 v0 v1 v2 v3 v4 z1 A1 B1 C1 D1 E1 F1 G1 H1 I1 J1 K1 L1 M1 N1 O1 Q1 R1 S1 T1 U1 W1 Y1 Z1 a2 b2 c2 d2 f2 g2 h2 i2 l2 n2 o2 p2 r2 t2 u2 w2 y2 z2 A2 B2 C2 D2 E2 F2 G2 H2 I2 J2 K2 L2 M2) s)))))) x s κ
theorem r19x12ok : RgOk P false o19x12 T113 r19x12 := fun _ _ x _ _ => by cases x; kernel_rfl
def o19x13 : Array Oper := regO (pth [1, 1, 1, 1, 0, 0, 0, 1, 1, 1, 1, 1, 1, 1, 1, 0] c19v)
def r19x13 : RG X113 := fun call yl x s κ => X113.rec (motive := fun _ => MO X113) (fun m a b c d f g h i l n o p r t u w y z A B C D E F G H I J K L M N O Q R S T U W Y Z a1 b1 c1 d1 f1 g1 h1 i1 l1 n1 o1 p1 r1 t1 u1 w1 y1 z1 A1 B1 C1 D1 E1 F1 G1 H1 I1 J1 K1 L1 M1 N1 O1 Q1 R1 S1 T1 U1 W1 Y1 Z1 a2 b2 c2 d2 f2 g2 h2 i2 l2 n2 o2 p2 r2 t2 u2 w2 y2 z2 A2 B2 C2 D2 E2 F2 G2 H2 I2 J2 K2 L2 M2 s κ => ptrK c 27 s (fun v0 s => ldV v0 true 2 s (fun v1 s => ptrK d 27 s (fun v2 s => ldV v2 true 2 s (fun v3 s => binC v1 v3 36 .neq P s (fun v4 s => κ (X113.mk m a b c d f g h i l n o p r t u w y z A B C D E F G H I J K L M N O Q R S T v4 W Y Z a1 b1 c1 d1 f1 g1 h1 i1 l1 n1 o1 p1 r1 t1 u1 w1 y1 v0 v1 v2 v3 v4 E1 F1 G1 H1 I1 J1 K1 L1 M1 N1 O1 Q1 R1 S1 T1 U1 W1 Y1 Z1 a2 b2 c2 d2 f2 g2 h2 i2 l2 n2 o2 p2 r2 t2 u2 w2 y2 z2 A2 B2 C2 D2 E2 F2 G2 H2 I2 J2 K2 L2 M2) s)))))) x s κ
theorem r19x13ok : RgOk P false o19x13 T113 r19x13 := fun _ _ x _ _ => by cases x; kernel_rfl
def o19x14 : Array Oper := regO (pth [1, 1, 1, 1, 0, 0, 0, 1, 1, 1, 1, 1, 1, 1, 1, 1, 1] c19v)
def r19x14 : RG X113 := fun call yl x s κ => X113.rec (motive := fun _ => MO X113) (fun m a b c d f g h i l n o p r t u w y z A B C D E F G H I J K L M N O Q R S T U W Y Z a1 b1 c1 d1 f1 g1 h1 i1 l1 n1 o1 p1 r1 t1 u1 w1 y1 z1 A1 B1 C1 D1 E1 F1 G1 H1 I1 J1 K1 L1 M1 N1 O1 Q1 R1 S1 T1 U1 W1 Y1 Z1 a2 b2 c2 d2 f2 g2 h2 i2 l2 n2 o2 p2 r2 t2 u2 w2 y2 z2 A2 B2 C2 D2 E2 F2 G2 H2 I2 J2 K2 L2 M2 s κ => ptrK c 30 s (fun v0 s => ldV v0 true 32 s (fun v1 s => ptrK d 30 s (fun v2 s => ldV v2 true 32 s (fun v3 s => binC v1 v3 38 .neq P s (fun v4 s => κ (X113.mk m a b c d f g h i l n o p r t u w y z A B C D E F G H I J K L M N O Q R S T v4 W Y Z a1 b1 c1 d1 f1 g1 h1 i1 l1 n1 o1 p1 r1 t1 u1 w1 y1 z1 A1 B1 C1 D1 v0 v1 v2 v3 v4 J1 K1 L1 M1 N1 O1 Q1 R1 S1 T1 U1 W1 Y1 Z1 a2 b2 c2 d2 f2 g2 h2 i2 l2 n2 o2 p2 r2 t2 u2 w2 y2 z2 A2 B2 C2 D2 E2 F2 G2 H2 I2 J2 K2 L2 M2) s)))))) x s κ
theorem r19x14ok : RgOk P false o19x14 T113 r19x14 := fun _ _ x _ _ => by cases x; kernel_rfl
def o19x15 : Array Oper := regO (pth [1, 1, 1, 1, 0, 0, 1, 0, 0] c19v)
def r19x15 : RG X113 := fun call yl x s κ => X113.rec (motive := fun _ => MO X113) (fun m a b c d f g h i l n o p r t u w y z A B C D E F G H I J K L M N O Q R S T U W Y Z a1 b1 c1 d1 f1 g1 h1 i1 l1 n1 o1 p1 r1 t1 u1 w1 y1 z1 A1 B1 C1 D1 E1 F1 G1 H1 I1 J1 K1 L1 M1 N1 O1 Q1 R1 S1 T1 U1 W1 Y1 Z1 a2 b2 c2 d2 f2 g2 h2 i2 l2 n2 o2 p2 r2 t2 u2 w2 y2 z2 A2 B2 C2 D2 E2 F2 G2 H2 I2 J2 K2 L2 M2 s κ => κ (X113.mk m a b c d (.b false) g h i l n o p r t u w y z A B C D E F G H I J K L M N O Q R S T U W Y Z a1 b1 c1 d1 f1 g1 h1 i1 l1 n1 o1 p1 r1 t1 u1 w1 y1 z1 A1 B1 C1 D1 E1 F1 G1 H1 I1 J1 K1 L1 M1 N1 O1 Q1 R1 S1 T1 U1 W1 Y1 Z1 a2 b2 c2 d2 f2 g2 h2 i2 l2 n2 o2 p2 r2 t2 u2 w2 y2 z2 A2 B2 C2 D2 E2 F2 G2 H2 I2 J2 K2 L2 M2) s) x s κ
theorem r19x15ok : RgOk P false o19x15 T113 r19x15 := fun _ _ x _ _ => by cases x; kernel_rfl
def o19x16 : Array Oper := regO (pth [1, 1, 1, 1, 0, 0, 1, 1, 0, 0] c19v)
def r19x16 : RG X113 := fun call yl x s κ => X113.rec (motive := fun _ => MO X113) (fun m a b c d f g h i l n o p r t u w y z A B C D E F G H I J K L M N O Q R S T U W Y Z a1 b1 c1 d1 f1 g1 h1 i1 l1 n1 o1 p1 r1 t1 u1 w1 y1 z1 A1 B1 C1 D1 E1 F1 G1 H1 I1 J1 K1 L1 M1 N1 O1 Q1 R1 S1 T1 U1 W1 Y1 Z1 a2 b2 c2 d2 f2 g2 h2 i2 l2 n2 o2 p2 r2 t2 u2 w2 y2 z2 A2 B2 C2 D2 E2 F2 G2 H2 I2 J2 K2 L2 M2 s κ => ptrK l 1 s (fun v0 s => ldV v0 false 1 s (fun v1 s => ptrK n 1 s (fun v2 s => ldV v2 false 1 s (fun v3 s => binC v1 v3 3 .neq P s (fun v4 s => κ (X113.mk m a b c d f g h i l n o p r t u w y z A B C D E F G H I J K L M N O Q R S T U W Y Z a1 b1 c1 d1 f1 g1 h1 i1 l1 n1 o1 p1 r1 t1 u1 w1 y1 z1 A1 B1 C1 D1 E1 F1 G1 H1 I1 v4 v0 v1 v2 v3 v4 Q1 R1 S1 T1 U1 W1 Y1 Z1 a2 b2 c2 d2 f2 g2 h2 i2 l2 n2 o2 p2 r2 t2 u2 w2 y2 z2 A2 B2 C2 D2 E2 F2 G2 H2 I2 J2 K2 L2 M2) s)))))) x s κ
theorem r19x16ok : RgOk P false o19x16 T113 r19x16 := fun _ _ x _ _ => by cases x; kernel_rfl
def o19x17 : Array Oper := regO (pth [1, 1, 1, 1, 0, 0, 1, 1, 0, 1, 1, 0] c19v)
def r19x17 : RG X113 := fun call yl x s κ => X113.rec (motive := fun _ => MO X113) (fun m a b c d f g h i l n o p r t u w y z A B C D E F G H I J K L M N O Q R S T U W Y Z a1 b1 c1 d1 f1 g1 h1 i1 l1 n1 o1 p1 r1 t1 u1 w1 y1 z1 A1 B1 C1 D1 E1 F1 G1 H1 I1 J1 K1 L1 M1 N1 O1 Q1 R1 S1 T1 U1 W1 Y1 Z1 a2 b2 c2 d2 f2 g2 h2 i2 l2 n2 o2 p2 r2 t2 u2 w2 y2 z2 A2 B2 C2 D2 E2 F2 G2 H2 I2 J2 K2 L2 M2 s κ => ptrK l 2 s (fun v0 s => ldV v0 false 1 s (fun v1 s => ptrK n 2 s (fun v2 s => ldV v2 false 1 s (fun v3 s => binC v1 v3 3 .neq P s (fun v4 s => κ (X113.mk m a b c d f g h i l n o p r t u w y z A B C D E F G H I J K L M N O Q R S T U W Y Z a1 b1 c1 d1 f1 g1 h1 i1 l1 n1 o1 p1 r1 t1 u1 w1 y1 z1 A1 B1 C1 D1 E1 F1 G1 H1 I1 v4 K1 L1 M1 N1 O1 v0 v1 v2 v3 v4 W1 Y1 Z1 a2 b2 c2 d2 f2 g2 h2 i2 l2 n2 o2 p2 r2 t2 u2 w2 y2 z2 A2 B2 C2 D2 E2 F2 G2 H2 I2 J2 K2 L2 M2) s)))))) x s κ
theorem r19x17ok : RgOk P false o19x17 T113 r19x17 := fun _ _ x _ _ => by cases x; kernel_rfl
def o19x18 : Array Oper := regO (pth [1, 1, 1, 1, 0, 0, 1, 1, 0, 1, 1, 1, 1, 0] c19v)
def r19x18 : RG X113 := fun call yl x s κ => X113.rec (motive := fun _ => MO X113) (fun m a b c d f g h i l n o p r t u w y z A B C D E F G H I J K L M N O Q R S T U W Y Z a1 b1 c1 d1 f1 g1 h1 i1 l1 n1 o1 p1 r1 t1 u1 w1 y1 z1 A1 B1 C1 D1 E1 F1 G1 H1 I1 J1 K1 L1 M1 N1 O1 Q1 R1 S1 T1 U1 W1 Y1 Z1 a2 b2 c2 d2 f2 g2 h2 i2 l2 n2 o2 p2 r2 t2 u2 w2 y2 z2 A2 B2 C2 D2 E2 F2 G2 H2 I2 J2 K2 L2 M2 s κ => ptrK l 3 s (fun v0 s => ldV v0 false 1 s (fun v1 s => ptrK n 3 s (fun v2 s => ldV v2 false 1 s (fun v3 s => binC v1 v3 9 .neq P s (fun v4 s => κ (X113.mk m a b c d f g h i l n o p r t u w y z A B C D E F G H I J K L M N O Q R S T U W Y Z a1 b1 c1 d1 f1 g1 h1 i1 l1 n1 o1 p1 r1 t1 u1 w1 y1 z1 A1 B1 C1 D1 E1 F1 G1 H1 I1 v4 K1 L1 M1 N1 O1 Q1 R1 S1 T1 U1 v0 v1 v2 v3 v4 c2 d2 f2 g2 h2 i2 l2 n2 o2 p2 r2 t2 u2 w2 y2 z2 A2 B2 C2 D2 E2 F2 G2 H2 I2 J2 K2 L2 M2) s)))))) x s κ
theorem r19x18ok : RgOk P false o19x18 T113 r19x18 := fun _ _ x _ _ => by cases x; kernel_rfl
def o19x19 : Array Oper := regO (pth [1, 1, 1, 1, 0, 0, 1, 1, 0, 1, 1, 1, 1, 1, 1, 0] c19v)
def r19x19 : RG X113 := fun call yl x s κ => X113.rec (motive := fun _ => MO X113) (fun m a b c d f g h i l n o p r t u w y z A B C D E F G H I J K L M N O Q R S T U W Y Z a1 b1 c1 d1 f1 g1 h1 i1 l1 n1 o1 p1 r1 t1 u1 w1 y1 z1 A1 B1 C1 D1 E1 F1 G1 H1 I1 J1 K1 L1 M1 N1 O1 Q1 R1 S1 T1 U1 W1 Y1 Z1 a2 b2 c2 d2 f2 g2 h2 i2 l2 n2 o2 p2 r2 t2 u2 w2 y2 z2 A2 B2 C2 D2 E2 F2 G2 H2 I2 J2 K2 L2 M2 s κ => ptrK l 4 s (fun v0 s => ldV v0 false 1 s (fun v1 s => ptrK n 4 s (fun v2 s => ldV v2 false 1 s (fun v3 s => binC v1 v3 3 .neq P s (fun v4 s => κ (X113.mk m a b c d f g h i l n o p r t u w y z A B C D E F G H I J K L M N O Q R S T U W Y Z a1 b1 c1 d1 f1 g1 h1 i1 l1 n1 o1 p1 r1 t1 u1 w1 y1 z1 A1 B1 C1 D1 E1 F1 G1 H1 I1 v4 K1 L1 M1 N1 O1 Q1 R1 S1 T1 U1 W1 Y1 Z1 a2 b2 v0 v1 v2 v3 v4 i2 l2 n2 o2 p2 r2 t2 u2 w2 y2 z2 A2 B2 C2 D2 E2 F2 G2 H2 I2 J2 K2 L2 M2) s)))))) x s κ
theorem r19x19ok : RgOk P false o19x19 T113 r19x19 := fun _ _ x _ _ => by cases x; kernel_rfl
def o19x20 : Array Oper := regO (pth [1, 1, 1, 1, 0, 0, 1, 1, 0, 1, 1, 1, 1, 1, 1, 1, 1] c19v)
def r19x20 : RG X113 := fun call yl x s κ => X113.rec (motive := fun _ => MO X113) (fun m a b c d f g h i l n o p r t u w y z A B C D E F G H I J K L M N O Q R S T U W Y Z a1 b1 c1 d1 f1 g1 h1 i1 l1 n1 o1 p1 r1 t1 u1 w1 y1 z1 A1 B1 C1 D1 E1 F1 G1 H1 I1 J1 K1 L1 M1 N1 O1 Q1 R1 S1 T1 U1 W1 Y1 Z1 a2 b2 c2 d2 f2 g2 h2 i2 l2 n2 o2 p2 r2 t2 u2 w2 y2 z2 A2 B2 C2 D2 E2 F2 G2 H2 I2 J2 K2 L2 M2 s κ => ptrK l 5 s (fun v0 s => ldV v0 false 1 s (fun v1 s => ptrK n 5 s (fun v2 s => ldV v2 false 1 s (fun v3 s => binC v1 v3 3 .neq P s (fun v4 s => κ (X113.mk m a b c d f g h i l n o p r t u w y z A B C D E F G H I J K L M N O Q R S T U W Y Z a1 b1 c1 d1 f1 g1 h1 i1 l1 n1 o1 p1 r1 t1 u1 w1 y1 z1 A1 B1 C1 D1 E1 F1 G1 H1 I1 v4 K1 L1 M1 N1 O1 Q1 R1 S1 T1 U1 W1 Y1 Z1 a2 b2 c2 d2 f2 g2 h2 v0 v1 v2 v3 v4 r2 t2 u2 w2 y2 z2 A2 B2 C2 D2 E2 F2 G2 H2 I2 J2 K2 L2 M2) s)))))) x s κ
theorem r19x20ok : RgOk P false o19x20 T113 r19x20 := fun _ _ x _ _ => by cases x; kernel_rfl
def o19x21 : Array Oper := regO (pth [1, 1, 1, 1, 0, 0, 1, 1, 1, 0, 0] c19v)
def r19x21 : RG X113 := fun call yl x s κ => X113.rec (motive := fun _ => MO X113) (fun m a b c d f g h i l n o p r t u w y z A B C D E F G H I J K L M N O Q R S T U W Y Z a1 b1 c1 d1 f1 g1 h1 i1 l1 n1 o1 p1 r1 t1 u1 w1 y1 z1 A1 B1 C1 D1 E1 F1 G1 H1 I1 J1 K1 L1 M1 N1 O1 Q1 R1 S1 T1 U1 W1 Y1 Z1 a2 b2 c2 d2 f2 g2 h2 i2 l2 n2 o2 p2 r2 t2 u2 w2 y2 z2 A2 B2 C2 D2 E2 F2 G2 H2 I2 J2 K2 L2 M2 s κ => κ (X113.mk m a b c d (.b false) g h i l n o p r t u w y z A B C D E F G H I J K L M N O Q R S T U W Y Z a1 b1 c1 d1 f1 g1 h1 i1 l1 n1 o1 p1 r1 t1 u1 w1 y1 z1 A1 B1 C1 D1 E1 F1 G1 H1 I1 J1 K1 L1 M1 N1 O1 Q1 R1 S1 T1 U1 W1 Y1 Z1 a2 b2 c2 d2 f2 g2 h2 i2 l2 n2 o2 p2 r2 t2 u2 w2 y2 z2 A2 B2 C2 D2 E2 F2 G2 H2 I2 J2 K2 L2 M2) s) x s κ
theorem r19x21ok : RgOk P false o19x21 T113 r19x21 := fun _ _ x _ _ => by cases x; kernel_rfl
def o19x22 : Array Oper := regO (pth [1, 1, 1, 1, 1, 0] c19v)
def r19x22 : RG X113 := fun call yl x s κ => X113.rec (motive := fun _ => MO X113) (fun m a b c d f g h i l n o p r t u w y z A B C D E F G H I J K L M N O Q R S T U W Y Z a1 b1 c1 d1 f1 g1 h1 i1 l1 n1 o1 p1 r1 t1 u1 w1 y1 z1 A1 B1 C1 D1 E1 F1 G1 H1 I1 J1 K1 L1 M1 N1 O1 Q1 R1 S1 T1 U1 W1 Y1 Z1 a2 b2 c2 d2 f2 g2 h2 i2 l2 n2 o2 p2 r2 t2 u2 w2 y2 z2 A2 B2 C2 D2 E2 F2 G2 H2 I2 J2 K2 L2 M2 s κ => ptrK c 29 s (fun v0 s => ldV v0 false 1 s (fun v1 s => ptrK d 29 s (fun v2 s => ldV v2 false 1 s (fun v3 s => call 42 [v1, v3] s (fun v4 s => bnk (fun κ1 => wantC v4 true (ptrK l 6 s (κ1)) (κ1 .e s)) (fun v5 s => bnk (fun κ1 => wantC v4 true (ldV v5 false 1 s (κ1)) (κ1 .e s)) (fun v6 s => bnk (fun κ1 => wantC v4 true (ptrK n 6 s (κ1)) (κ1 .e s)) (fun v7 s => bnk (fun κ1 => wantC v4 true (ldV v7 false 1 s (κ1)) (κ1 .e s)) (fun v8 s => bnk (fun κ1 => wantC v4 true (call 43 [v6, v8] s (κ1)) (κ1 .e s)) (fun v9 s => bnk (fun κ0 => condB v4 (κ0 v9 s) (κ0 (.b false) s)) (fun v10 s => bnk (fun κ1 => wantC v10 true (ptrK l 0 s (κ1)) (κ1 .e s)) (fun v11 s => bnk (fun κ1 => wantC v10 true (ldV v11 false 1 s (κ1)) (κ1 .e s)) (fun v12 s => bnk (fun κ1 => wantC v10 true (ptrK n 0 s (κ1)) (κ1 .e s)) (fun v13 s => bnk (fun κ1 => wantC v10 true (ldV v13 false 1 s (κ1)) (κ1 .e s)) (fun v14 s => bnk (fun κ1 => wantC v10 true (call 44 [v12, v14, (.o (.f 45 [] []))] s (κ1)) (κ1 .e s)) (fun v15 s => bnk (fun κ0 => condB v10 (κ0 v15 s) (κ0 (.b false) s)) (fun v16 s => κ (X113.mk m a b c d v16 g h i l n o p r t u w y z A B C D E F G H I J K L M N O Q R S T U W Y Z a1 b1 c1 d1 f1 g1 h1 i1 l1 n1 o1 p1 r1 t1 u1 w1 y1 z1 A1 B1 C1 D1 E1 F1 G1 H1 I1 J1 K1 L1 M1 N1 O1 Q1 R1 S1 T1 U1 W1 Y1 Z1 a2 b2 c2 d2 f2 g2 h2 i2 l2 n2 o2 p2 v0 v1 v2 v3 v4 v4 v5 v6 v7 v8 v9 v10 v10 v11 v12 v13 v14 v15 v16) s)))))))))))))))))) x s κ
theorem r19x22ok : RgOk P false o19x22 T113 r19x22 := fun _ _ x _ _ => by cases x; kernel_rfl
def S19 : SF X113 := (seqS (regS P t2.fq r19x0) (seqS (regS P t2.fq r19x1) (seqS (seqS (regS P t2.fq r19x2) (blkS 0 (loopS (seqS (regS P t2.fq r19x3) (seqS (condS (fun x => X113.rec (motive := fun _ => FV) (fun _ _ _ _ _ _ _ _ _ _ _ _ _ _ z _ _ _ _ _ _ _ _ _ _ _ _ _ _ _ _ _ _ _ _ _ _ _ _ _ _ _ _ _ _ _ _ _ _ _ _ _ _ _ _ _ _ _ _ _ _ _ _ _ _ _ _ _ _ _ _ _ _ _ _ _ _ _ _ _ _ _ _ _ _ _ _ _ _ _ _ _ _ _ _ _ _ _ _ _ _ _ _ _ _ _ _ _ _ _ _ _ _ _ => z) x) skipS (exitS 0)) (seqS (blkS 1 (seqS (regS P t2.fq r19x4) (seqS (regS P t2.fq r19x5) (condS (fun x => X113.rec (motive := fun _ => FV) (fun _ _ _ _ _ _ _ _ _ _ _ _ _ _ _ _ _ _ _ _ _ _ _ _ _ _ _ _ _ _ _ _ z _ _ _ _ _ _ _ _ _ _ _ _ _ _ _ _ _ _ _ _ _ _ _ _ _ _ _ _ _ _ _ _ _ _ _ _ _ _ _ _ _ _ _ _ _ _ _ _ _ _ _ _ _ _ _ _ _ _ _ _ _ _ _ _ _ _ _ _ _ _ _ _ _ _ _ _ _ _ _ _ _ => z) x) (seqS (regS P t2.fq r19x6) retS) skipS)))) (regS P t2.fq r19x7))))))) (seqS (regS P t2.fq r19x8) (seqS (blkS 2 (seqS (seqS (regS P t2.fq r19x9) (condS (fun x => X113.rec (motive := fun _ => FV) (fun _ _ _ _ _ _ _ _ _ _ _ _ _ _ _ _ _ _ _ _ _ _ _ _ _ _ _ _ _ _ _ _ _ _ _ _ _ _ z _ _ _ _ _ _ _ _ _ _ _ _ _ _ _ _ _ _ _ _ _ _ _ _ _ _ _ _ _ _ _ _ _ _ _ _ _ _ _ _ _ _ _ _ _ _ _ _ _ _ _ _ _ _ _ _ _ _ _ _ _ _ _ _ _ _ _ _ _ _ _ _ _ _ _ => z) x) skipS (seqS (regS P t2.fq r19x10) (condS (fun x => X113.rec (motive := fun _ => FV) (fun _ _ _ _ _ _ _ _ _ _ _ _ _ _ _ _ _ _ _ _ _ _ _ _ _ _ _ _ _ _ _ _ _ _ _ _ _ _ z _ _ _ _ _ _ _ _ _ _ _ _ _ _ _ _ _ _ _ _ _ _ _ _ _ _ _ _ _ _ _ _ _ _ _ _ _ _ _ _ _ _ _ _ _ _ _ _ _ _ _ _ _ _ _ _ _ _ _ _ _ _ _ _ _ _ _ _ _ _ _ _ _ _ _ => z) x) skipS (seqS (regS P t2.fq r19x11) (condS (fun x => X113.rec (motive := fun _ => FV) (fun _ _ _ _ _ _ _ _ _ _ _ _ _ _ _ _ _ _ _ _ _ _ _ _ _ _ _ _ _ _ _ _ _ _ _ _ _ _ z _ _ _ _ _ _ _ _ _ _ _ _ _ _ _ _ _ _ _ _ _ _ _ _ _ _ _ _ _ _ _ _ _ _ _ _ _ _ _ _ _ _ _ _ _ _ _ _ _ _ _ _ _ _ _ _ _ _ _ _ _ _ _ _ _ _ _ _ _ _ _ _ _ _ _ => z) x) skipS (seqS (regS P t2.fq r19x12) (condS (fun x => X113.rec (motive := fun _ => FV) (fun _ _ _ _ _ _ _ _ _ _ _ _ _ _ _ _ _ _ _ _ _ _ _ _ _ _ _ _ _ _ _ _ _ _ _ _ _ _ z _ _ _ _ _ _ _ _ _ _ _ _ _ _ _ _ _ _ _ _ _ _ _ _ _ _ _ _ _ _ _ _ _ _ _ _ _ _ _ _ _ _ _ _ _ _ _ _ _ _ _ _ _ _ _ _ _ _ _ _ _ _ _ _ _ _ _ _ _ _ _ _ _ _ _ => z) x) skipS (seqS (regS P t2.fq r19x13) (condS (fun x => X113.rec (motive := fun _ => FV) (fun _ _ _ _ _ _ _ _ _ _ _ _ _ _ _ _ _ _ _ _ _ _ _ _ _ _ _ _ _ _ _ _ _ _ _ _ _ _ z _ _ _ _ _ _ _ _ _ _ _ _ _ _ _ _ _ _ _ _ _ _ _ _ _ _ _ _ _ _ _ _ _ _ _ _ _ _ _ _ _ _ _ _ _ _ _ _ _ _ _ _ _ _ _ _ _ _ _ _ _ _ _ _ _ _ _ _ _ _ _ _ _ _ _ => z) x) skipS (regS P t2.fq r19x14))))))))))) (condS (fun x => X113.rec (motive := fun _ => FV) (fun _ _ _ _ _ _ _ _ _ _ _ _ _ _ _ _ _ _ _ _ _ _ _ _ _ _ _ _ _ _ _ _ _ _ _ _ _ _ z _ _ _ _ _ _ _ _ _ _ _ _ _ _ _ _ _ _ _ _ _ _ _ _ _ _ _ _ _ _ _ _ _ _ _ _ _ _ _ _ _ _ _ _ _ _ _ _ _ _ _ _ _ _ _ _ _ _ _ _ _ _ _ _ _ _ _ _ _ _ _ _ _ _ _ => z) x) (seqS (regS P t2.fq r19x15) retS) (seqS (seqS (regS P t2.fq r19x16) (condS (fun x => X113.rec (motive := fun _ => FV) (fun _ _ _ _ _ _ _ _ _ _ _ _ _ _ _ _ _ _ _ _ _ _ _ _ _ _ _ _ _ _ _ _ _ _ _ _ _ _ _ _ _ _ _ _ _ _ _ _ _ _ _ _ _ _ _ _ _ _ _ _ _ _ _ _ _ _ _ _ _ z _ _ _ _ _ _ _ _ _ _ _ _ _ _ _ _ _ _ _ _ _ _ _ _ _ _ _ _ _ _ _ _ _ _ _ _ _ _ _ _ _ _ _ _ => z) x) skipS (seqS (regS P t2.fq r19x17) (condS (fun x => X113.rec (motive := fun _ => FV) (fun _ _ _ _ _ _ _ _ _ _ _ _ _ _ _ _ _ _ _ _ _ _ _ _ _ _ _ _ _ _ _ _ _ _ _ _ _ _ _ _ _ _ _ _ _ _ _ _ _ _ _ _ _ _ _ _ _ _ _ _ _ _ _ _ _ _ _ _ _ z _ _ _ _ _ _ _ _ _ _ _ _ _ _ _ _ _ _ _ _ _ _ _ _ _ _ _ _ _ _ _ _ _ _ _ _ _ _ _ _ _ _ _ _ => z) x) skipS (seqS (regS P t2.fq r19x18) (condS (fun x => X113.rec (motive := fun _ => FV) (fun _ _ _ _ _ _ _ _ _ _ _ _ _ _ _ _ _ _ _ _ _ _ _ _ _ _ _ _ _ _ _ _ _ _ _ _ _ _ _ _ _ _ _ _ _ _ _ _ _ _ _ _ _ _ _ _ _ _ _ _ _ _ _ _ _ _ _ _ _ z _ _ _ _ _ _ _ _ _ _ _ _ _ _ _ _ _ _ _ _ _ _ _ _ _ _ _ _ _ _ _ _ _ _ _ _ _ _ _ _ _ _ _ _ => z) x) skipS (seqS (regS P t2.fq r19x19) (condS (fun x => X113.rec (motive := fun _ => FV) (fun _ _ _ _ _ _ _ _ _ _ _ _ _ _ _ _ _ _ _ _ _ _ _ _ _ _ _ _ _ _ _ _ _ _ _ _ _ _ _ _ _ _ _ _ _ _ _ _ _ _ _ _ _ _ _ _ _ _ _ _ _ _ _ _ _ _ _ _ _ z _ _ _ _ _ _ _ _ _ _ _ _ _ _ _ _ _ _ _ _ _ _ _ _ _ _ _ _ _ _ _ _ _ _ _ _ _ _ _ _ _ _ _ _ => z) x) skipS (regS P t2.fq r19x20))))))))) (condS (fun x => X113.rec (motive := fun _ => FV) (fun _ _ _ _ _ _ _ _ _ _ _ _ _ _ _ _ _ _ _ _ _ _ _ _ _ _ _ _ _ _ _ _ _ _ _ _ _ _ _ _ _ _ _ _ _ _ _ _ _ _ _ _ _ _ _ _ _ _ _ _ _ _ _ _ _ _ _ _ _ z _ _ _ _ _ _ _ _ _ _ _ _ _ _ _ _ _ _ _ _ _ _ _ _ _ _ _ _ _ _ _ _ _ _ _ _ _ _ _ _ _ _ _ _ => z) x) (seqS (regS P t2.fq r19x21) retS) skipS))))) (seqS (regS P t2.fq r19x22) retS))))))
theorem S19ok : Sh P t2.fq T113 c19v S19 := by
  have e : c19v = (.seq (.region 0 o19x0 false) (.seq (.region 1 o19x1 false) (.seq (.seq (.region 2 o19x2 false) (.block 0 (.loop (.seq (.region 3 o19x3 false) (.seq (.cond (.tmp 13) .skip (.exit 0)) (.seq (.block 1 (.seq (.region 4 o19x4 false) (.seq (.region 5 o19x5 true) (.cond (.tmp 31) (.seq (.region 6 o19x6 false) .ret) .skip)))) (.region 7 o19x7 false))))))) (.seq (.region 8 o19x8 true) (.seq (.block 2 (.seq (.seq (.region 9 o19x9 false) (.cond (.tmp 37) .skip (.seq (.region 10 o19x10 false) (.cond (.tmp 37) .skip (.seq (.region 11 o19x11 false) (.cond (.tmp 37) .skip (.seq (.region 12 o19x12 false) (.cond (.tmp 37) .skip (.seq (.region 13 o19x13 false) (.cond (.tmp 37) .skip (.region 14 o19x14 false))))))))))) (.cond (.tmp 37) (.seq (.region 15 o19x15 false) .ret) (.seq (.seq (.region 16 o19x16 false) (.cond (.tmp 68) .skip (.seq (.region 17 o19x17 false) (.cond (.tmp 68) .skip (.seq (.region 18 o19x18 false) (.cond (.tmp 68) .skip (.seq (.region 19 o19x19 false) (.cond (.tmp 68) .skip (.region 20 o19x20 false))))))))) (.cond (.tmp 68) (.seq (.region 21 o19x21 false) .ret) .skip))))) (.seq (.region 22 o19x22 false) .ret)))))) := by kernel_rfl
  rw [e]
  exact (sh_seq (sh_reg r19x0ok) (sh_seq (sh_reg r19x1ok) (sh_seq (sh_seq (sh_reg r19x2ok) (sh_blk 0 (sh_loop (sh_seq (sh_reg r19x3ok) (sh_seq (sh_cond (fun x => by cases x; rfl) sh_skip (sh_exit 0)) (sh_seq (sh_blk 1 (sh_seq (sh_reg r19x4ok) (sh_seq (sh_reg r19x5ok) (sh_cond (fun x => by cases x; rfl) (sh_seq (sh_reg r19x6ok) sh_ret) sh_skip)))) (sh_reg r19x7ok))))))) (sh_seq (sh_reg r19x8ok) (sh_seq (sh_blk 2 (sh_seq (sh_seq (sh_reg r19x9ok) (sh_cond (fun x => by cases x; rfl) sh_skip (sh_seq (sh_reg r19x10ok) (sh_cond (fun x => by cases x; rfl) sh_skip (sh_seq (sh_reg r19x11ok) (sh_cond (fun x => by cases x; rfl) sh_skip (sh_seq (sh_reg r19x12ok) (sh_cond (fun x => by cases x; rfl) sh_skip (sh_seq (sh_reg r19x13ok) (sh_cond (fun x => by cases x; rfl) sh_skip (sh_reg r19x14ok))))))))))) (sh_cond (fun x => by cases x; rfl) (sh_seq (sh_reg r19x15ok) sh_ret) (sh_seq (sh_seq (sh_reg r19x16ok) (sh_cond (fun x => by cases x; rfl) sh_skip (sh_seq (sh_reg r19x17ok) (sh_cond (fun x => by cases x; rfl) sh_skip (sh_seq (sh_reg r19x18ok) (sh_cond (fun x => by cases x; rfl) sh_skip (sh_seq (sh_reg r19x19ok) (sh_cond (fun x => by cases x; rfl) sh_skip (sh_reg r19x20ok))))))))) (sh_cond (fun x => by cases x; rfl) (sh_seq (sh_reg r19x21ok) sh_ret) sh_skip))))) (sh_seq (sh_reg r19x22ok) sh_ret))))))
def A19 : List FV → Option X113 := fun l => match l with
  | [a, b] => some (X113.mk [] a b .e .e .e .e .e .e .e .e .e .e .e .e .e .e .e .e .e .e .e .e .e .e .e .e .e .e .e .e .e .e .e .e .e .e .e .e .e .e .e .e .e .e .e .e .e .e .e .e .e .e .e .e .e .e .e .e .e .e .e .e .e .e .e .e .e .e .e .e .e .e .e .e .e .e .e .e .e .e .e .e .e .e .e .e .e .e .e .e .e .e .e .e .e .e .e .e .e .e .e .e .e .e .e .e .e .e .e .e .e .e .e)
  | _ => none
def L19 : LQ := shal P T113 S19 [.tmp 4] 4000 A19
def E19 : LA := evCall P t2.fa 4000 19
theorem G19 : Good P 19 L19 E19 := good_shal all2 (by kernel_rfl) (show FT P 19 = some (c19v, 113, [.tmp 4]) by kernel_rfl) S19ok (fun l x h => by
    unfold A19 at h
    split at h
    · cases h; exact ⟨by kernel_rfl, by kernel_rfl⟩
    · cases h) 4000
def c21v : Code := bodyOf P 21
def o21x0 : Array Oper := regO (pth [0] c21v)
def r21x0 : RG X13 := fun call yl x s κ => X13.rec (motive := fun _ => MO X13) (fun m a b c d f g h i l n o p r s κ => bxV a 26 s (fun v0 s => allocC P 26 s (fun v1 s => κ (X13.mk m a v0 v1 d f g h i l n o p r) s))) x s κ
theorem r21x0ok : RgOk P false o21x0 T13 r21x0 := fun _ _ x _ _ => by cases x; kernel_rfl
def o21x1 : Array Oper := regO (pth [1, 0] c21v)
def r21x1 : RG X13 := fun call yl x s κ => X13.rec (motive := fun _ => MO X13) (fun m a b c d f g h i l n o p r s κ => ldV b true 7 s (fun v0 s => call 29 [v0] s (fun v1 s => stA b v1 7 s (fun _ s => κ (X13.mk m a b c v0 v1 g h i l n o p r) s)))) x s κ
theorem r21x1ok : RgOk P false o21x1 T13 r21x1 := fun _ _ x _ _ => by cases x; kernel_rfl
def o21x2 : Array Oper := regO (pth [1, 1, 0, 0] c21v)
def r21x2 : RG X13 := fun call yl x s κ => X13.rec (motive := fun _ => MO X13) (fun m a b c d f g h i l n o p r s κ => ptrK b 4 s (fun v0 s => ldV v0 false 1 s (fun v1 s => κ (X13.mk m a b c d f v0 v1 i l n o p r) s))) x s κ
theorem r21x2ok : RgOk P false o21x2 T13 r21x2 := fun _ _ x _ _ => by cases x; kernel_rfl
def o21x3 : Array Oper := regO (pth [1, 1, 0, 1, 0, 0, 0, 0, 0, 0, 0] c21v)
def r21x3 : RG X13 := fun call yl x s κ => X13.rec (motive := fun _ => MO X13) (fun m a b c d f g h i l n o p r s κ => binC h (.i .i64 0) 3 .eql P s (fun v0 s => κ (X13.mk m a b c d f g h v0 v0 n o p r) s)) x s κ
theorem r21x3ok : RgOk P false o21x3 T13 r21x3 := fun _ _ x _ _ => by cases x; kernel_rfl
def o21x4 : Array Oper := regO (pth [1, 1, 0, 1, 0, 0, 0, 0, 0, 1, 0] c21v)
def r21x4 : RG X13 := fun call yl x s κ => X13.rec (motive := fun _ => MO X13) (fun m a b c d f g h i l n o p r s κ => binC h (.i .i64 2) 3 .eql P s (fun v0 s => κ (X13.mk m a b c d f g h i l v0 v0 p r) s)) x s κ
theorem r21x4ok : RgOk P false o21x4 T13 r21x4 := fun _ _ x _ _ => by cases x; kernel_rfl
def o21x5 : Array Oper := regO (pth [1, 1, 0, 1, 0, 1, 0] c21v)
def r21x5 : RG X13 := fun call yl x s κ => X13.rec (motive := fun _ => MO X13) (fun m a b c d f g h i l n o p r s κ => ptrK b 4 s (fun v0 s => stA v0 (.i .i64 5) 1 s (fun _ s => κ (X13.mk m a b c d f g h i l n o v0 r) s))) x s κ
theorem r21x5ok : RgOk P false o21x5 T13 r21x5 := fun _ _ x _ _ => by cases x; kernel_rfl
def o21x6 : Array Oper := regO (pth [1, 1, 1, 0] c21v)
def r21x6 : RG X13 := fun call yl x s κ => X13.rec (motive := fun _ => MO X13) (fun m a b c d f g h i l n o p r s κ => ldV b true 7 s (fun v0 s => stA c v0 7 s (fun _ s => κ (X13.mk m a b c d f g h i l n o p v0) s))) x s κ
theorem r21x6ok : RgOk P false o21x6 T13 r21x6 := fun _ _ x _ _ => by cases x; kernel_rfl
def S21 : SF X13 := (seqS (regS P t2.fq r21x0) (seqS (regS P t2.fq r21x1) (seqS (seqS (regS P t2.fq r21x2) (blkS 0 (seqS (blkS 2 (blkS 1 (seqS (seqS (seqS (regS P t2.fq r21x3) (condS (fun x => X13.rec (motive := fun _ => FV) (fun _ _ _ _ _ _ _ _ z _ _ _ _ _ => z) x) (exitS 1) skipS)) (seqS (regS P t2.fq r21x4) (condS (fun x => X13.rec (motive := fun _ => FV) (fun _ _ _ _ _ _ _ _ _ _ z _ _ _ => z) x) (exitS 2) skipS))) (exitS 0)))) (seqS (regS P t2.fq r21x5) (exitS 0))))) (seqS (regS P t2.fq r21x6) retS))))
theorem S21ok : Sh P t2.fq T13 c21v S21 := by
  have e : c21v = (.seq (.region 0 o21x0 false) (.seq (.region 1 o21x1 false) (.seq (.seq (.region 2 o21x2 false) (.block 0 (.seq (.block 2 (.block 1 (.seq (.seq (.seq (.region 3 o21x3 false) (.cond (.tmp 7) (.exit 1) .skip)) (.seq (.region 4 o21x4 false) (.cond (.tmp 9) (.exit 2) .skip))) (.exit 0)))) (.seq (.region 5 o21x5 false) (.exit 0))))) (.seq (.region 6 o21x6 false) .ret)))) := by kernel_rfl
  rw [e]
  exact (sh_seq (sh_reg r21x0ok) (sh_seq (sh_reg r21x1ok) (sh_seq (sh_seq (sh_reg r21x2ok) (sh_blk 0 (sh_seq (sh_blk 2 (sh_blk 1 (sh_seq (sh_seq (sh_seq (sh_reg r21x3ok) (sh_cond (fun x => by cases x; rfl) (sh_exit 1) sh_skip)) (sh_seq (sh_reg r21x4ok) (sh_cond (fun x => by cases x; rfl) (sh_exit 2) sh_skip))) (sh_exit 0)))) (sh_seq (sh_reg r21x5ok) (sh_exit 0))))) (sh_seq (sh_reg r21x6ok) sh_ret))))
def A21 : List FV → Option X13 := fun l => match l with
  | [a] => some (X13.mk [] a .e .e .e .e .e .e .e .e .e .e .e .e)
  | _ => none
def L21 : LQ := shal P T13 S21 [.cell 2 26] 4000 A21
def E21 : LA := evCall P t2.fa 4000 21
theorem G21 : Good P 21 L21 E21 := good_shal all2 (by kernel_rfl) (show FT P 21 = some (c21v, 13, [.cell 2 26]) by kernel_rfl) S21ok (fun l x h => by
    unfold A21 at h
    split at h
    · cases h; exact ⟨by kernel_rfl, by kernel_rfl⟩
    · cases h) 4000
def c58v : Code := bodyOf P 58
def o58x0 : Array Oper := regO (pth [0] c58v)
def r58x0 : RG X36 := fun call yl x s κ => X36.rec (motive := fun _ => MO X36) (fun m a b c d f g h i l n o p r t u w y z A B C D E F G H I J K L M N O Q R S s κ => κ (X36.mk m a b (.i .i64 0) d f g h i l n o p r t u w y z A B C D E F G H I J K L M N O Q R S) s) x s κ
theorem r58x0ok : RgOk P false o58x0 T36 r58x0 := fun _ _ x _ _ => by cases x; kernel_rfl
def o58x1 : Array Oper := regO (pth [1, 0, 0] c58v)
def r58x1 : RG X36 := fun call yl x s κ => X36.rec (motive := fun _ => MO X36) (fun m a b c d f g h i l n o p r t u w y z A B C D E F G H I J K L M N O Q R S s κ => (fun qv0 => sandS (fun s κ1 => nilC a s (κ1)) s (fun qv1 v2 s => sandS (fun s κ1 => ptrK v2 1 s (κ1)) s (fun qv3 v4 s => sandS (fun s κ1 => ldV v4 true 36 s (κ1)) s (fun qv5 v6 s => sandS (fun s κ1 => call 81 [v6] s (κ1)) s (fun qv7 v8 s => sandS (fun s κ1 => notC v8 s (κ1)) s (fun qv9 v10 s => (fun qv11 => sandS (fun s κ1 => bnk (fun κ1 => wantC v10 false (κ1 a s) (κ1 .e s)) κ1) s (fun qv12 v13 s => sandS (fun s κ1 => bnk (fun κ1 => wantC v10 false (nilC v13 s (κ1)) (κ1 .e s)) κ1) s (fun qv14 v15 s => sandS (fun s κ1 => bnk (fun κ1 => wantC v10 false (ptrK v15 0 s (κ1)) (κ1 .e s)) κ1) s (fun qv16 v17 s => sandS (fun s κ1 => bnk (fun κ1 => wantC v10 false (ldV v17 false 1 s (κ1)) (κ1 .e s)) κ1) s (fun qv18 v19 s => sandS (fun s κ1 => bnk (fun κ1 => wantC v10 false (lenC v19 P 50 s (κ1)) (κ1 .e s)) κ1) s (fun qv20 v21 s => sandS (fun s κ1 => bnk (fun κ1 => wantC v10 false (binC v21 (.i .i64 16) 3 .gtr P s (κ1)) (κ1 .e s)) κ1) s (fun qv22 v23 s => sandS (fun s κ1 => bnk (fun κ0 => condB v10 (κ0 (.b true) s) (κ0 v23 s)) (κ1)) s (fun qv24 v25 s => (fun qv26 => sandS (fun s κ1 => bnk (fun κ1 => wantC v25 false (κ1 a s) (κ1 .e s)) κ1) s (fun qv27 v28 s => sandS (fun s κ1 => bnk (fun κ1 => wantC v25 false (nilC v28 s (κ1)) (κ1 .e s)) κ1) s (fun qv29 v30 s => sandS (fun s κ1 => bnk (fun κ1 => wantC v25 false (ptrK v30 1 s (κ1)) (κ1 .e s)) κ1) s (fun qv31 v32 s => sandS (fun s κ1 => bnk (fun κ1 => wantC v25 false (ptrK v32 0 s (κ1)) (κ1 .e s)) κ1) s (fun qv33 v34 s => sandS (fun s κ1 => bnk (fun κ1 => wantC v25 false (ldV v34 false 1 s (κ1)) (κ1 .e s)) κ1) s (fun qv35 v36 s => sandS (fun s κ1 => bnk (fun κ1 => wantC v25 false (κ1 a s) (κ1 .e s)) κ1) s (fun qv37 v38 s => sandS (fun s κ1 => bnk (fun κ1 => wantC v25 false (nilC v38 s (κ1)) (κ1 .e s)) κ1) s (fun qv39 v40 s => sandS (fun s κ1 => bnk (fun κ1 => wantC v25 false (ptrK v40 1 s (κ1)) (κ1 .e s)) κ1) s (fun qv41 v42 s => sandS (fun s κ1 => bnk (fun κ1 => wantC v25 false (ptrK v42 1 s (κ1)) (κ1 .e s)) κ1) s (fun qv43 v44 s => sandS (fun s κ1 => bnk (fun κ1 => wantC v25 false (ldV v44 false 1 s (κ1)) (κ1 .e s)) κ1) s (fun qv45 v46 s => sandS (fun s κ1 => bnk (fun κ1 => wantC v25 false (mmC true v36 [v46] s (κ1)) (κ1 .e s)) κ1) s (fun qv47 v48 s => sandS (fun s κ1 => bnk (fun κ1 => wantC v25 false (κ1 a s) (κ1 .e s)) κ1) s (fun qv49 v50 s => sandS (fun s κ1 => bnk (fun κ1 => wantC v25 false (nilC v50 s (κ1)) (κ1 .e s)) κ1) s (fun qv51 v52 s => sandS (fun s κ1 => bnk (fun κ1 => wantC v25 false (ptrK v52 0 s (κ1)) (κ1 .e s)) κ1) s (fun qv53 v54 s => sandS (fun s κ1 => bnk (fun κ1 => wantC v25 false (ldV v54 false 1 s (κ1)) (κ1 .e s)) κ1) s (fun qv55 v56 s => sandS (fun s κ1 => bnk (fun κ1 => wantC v25 false (lenC v56 P 50 s (κ1)) (κ1 .e s)) κ1) s (fun qv57 v58 s => sandS (fun s κ1 => bnk (fun κ1 => wantC v25 false (binC v48 v58 3 .geq P s (κ1)) (κ1 .e s)) κ1) s (fun qv59 v60 s => sandS (fun s κ1 => bnk (fun κ0 => condB v25 (κ0 (.b true) s) (κ0 v60 s)) (κ1)) s (fun qv61 v62 s => V.iff (dynA [] [qv0, qv1, qv3, qv5, qv7, qv9, qv11, qv12, qv14, qv16, qv18, qv20, qv22, qv24, qv26, qv27, qv29, qv31, qv33, qv35, qv37, qv39, qv41, qv43, qv45, qv47, qv49, qv51, qv53, qv55, qv57, qv59, qv61] [[], [false], [false, false], [false, false, false], [false, false, false, false], [false, false, false, false, false], [false, false, false, false, false, false], [false, false, false, false, false, false, false], [false, false, false, false, false, false, false, false], [false, false, false, false, false, false, false, false, false], [false, false, false, false, false, false, false, false, false, false], [false, false, false, false, false, false, false, false, false, false, false], [false, false, false, false, false, false, false, false, false, false, false, false], [false, false, false, false, false, false, false, false, false, false, false, false, false], [false, false, false, false, false, false, false, false, false, false, false, false, false, false], [false, false, false, false, false, false, false, false, false, false, false, false, false, false, false], [false, false, false, false, false, false, false, false, false, false, false, false, false, false, false, false], [false, false, false, false, false, false, false, false, false, false, false, false, false, false, false, false, false], [false, false, false, false, false, false, false, false, false, false, false, false, false, false, false, false, false, false], [false, false, false, false, false, false, false, false, false, false, false, false, false, false, false, false, false, false, false], [false, false, false, false, false, false, false, false, false, false, false, false, false, false, false, true, true, true, true, true], [false, false, false, false, false, false, false, false, false, false, false, false, false, false, false, true, true, true, true, true, false], [false, false, false, false, false, false, false, false, false, false, false, false, false, false, false, true, true, true, true, true, false, false], [false, false, false, false, false, false, false, false, false, false, false, false, false, false, false, true, true, true, true, true, false, false, false], [false, false, false, false, false, false, false, false, false, false, false, false, false, false, false, true, true, true, true, true, false, false, false, false], [false, false, false, false, false, false, false, false, false, false, false, false, false, false, false, false, false, false, false, false, false, false, false, false, false], [false, false, false, false, false, false, false, false, false, false, false, false, false, false, false, true, true, true, true, true, true, true, true, true, true, true], [false, false, false, false, false, false, false, false, false, false, false, false, false, false, false, true, true, true, true, true, true, true, true, true, true, true, false], [false, false, false, false, false, false, false, false, false, false, false, false, false, false, false, true, true, true, true, true, true, true, true, true, true, true, false, false], [false, false, false, false, false, false, false, false, false, false, false, false, false, false, false, true, true, true, true, true, true, true, true, true, true, true, false, false, false], [false, false, false, false, false, false, false, false, false, false, false, false, false, false, false, true, true, true, true, true, true, true, true, true, true, true, false, false, false, false], [false, false, false, false, false, false, false, false, false, false, false, false, false, false, false, false, false, false, false, false, false, false, false, false, false, false, false, false, false, false, false], [false, false, false, false, false, false, false, false, false, false, false, false, false, false, false, false, false, false, false, false, false, false, false, false, false, false, false, false, false, false, false, false]]) (κ (X36.mk m a b c a v2 v4 v6 v8 v10 v10 v13 v15 v17 v19 v21 v23 v25 v25 v28 v30 v32 v34 v36 v38 v40 v42 v44 v46 v48 v50 v52 v54 v56 v58 v60 v62) s)))))))))))))))))))) (qz s))))))))) (qz s))))))) (qz s)) x s κ
theorem r58x1ok : RgOk P true o58x1 T36 r58x1 := fun _ _ x _ _ => by cases x; kernel_rfl
def o58x2 : Array Oper := regO (pth [1, 0, 1, 0, 0] c58v)
def r58x2 : RG X36 := fun call yl x s κ => X36.rec (motive := fun _ => MO X36) (fun m a b c d f g h i l n o p r t u w y z A B C D E F G H I J K L M N O Q R S s κ => κ (X36.mk m a b (.i .i64 1) d f g h i l n o p r t u w y z A B C D E F G H I J K L M N O Q R S) s) x s κ
theorem r58x2ok : RgOk P false o58x2 T36 r58x2 := fun _ _ x _ _ => by cases x; kernel_rfl
def o58x3 : Array Oper := regO (pth [1, 1, 0] c58v)
def r58x3 : RG X36 := fun call yl x s κ => X36.rec (motive := fun _ => MO X36) (fun m a b c d f g h i l n o p r t u w y z A B C D E F G H I J K L M N O Q R S s κ => κ (X36.mk m a b (.i .i64 0) d f g h i l n o p r t u w y z A B C D E F G H I J K L M N O Q R S) s) x s κ
theorem r58x3ok : RgOk P false o58x3 T36 r58x3 := fun _ _ x _ _ => by cases x; kernel_rfl
def S58 : SF X36 := (seqS (regS P t2.fq r58x0) (seqS (seqS (regS P t2.fq r58x1) (condS (fun x => X36.rec (motive := fun _ => FV) (fun _ _ _ _ _ _ _ _ _ _ _ _ _ _ _ _ _ _ _ _ _ _ _ _ _ _ _ _ _ _ _ _ _ _ _ _ z => z) x) (seqS (regS P t2.fq r58x2) retS) skipS)) (seqS (regS P t2.fq r58x3) retS)))
theorem S58ok : Sh P t2.fq T36 c58v S58 := by
  have e : c58v = (.seq (.region 0 o58x0 false) (.seq (.seq (.region 1 o58x1 true) (.cond (.tmp 35) (.seq (.region 2 o58x2 false) .ret) .skip)) (.seq (.region 3 o58x3 false) .ret))) := by kernel_rfl
  rw [e]
  exact (sh_seq (sh_reg r58x0ok) (sh_seq (sh_seq (sh_reg r58x1ok) (sh_cond (fun x => by cases x; rfl) (sh_seq (sh_reg r58x2ok) sh_ret) sh_skip)) (sh_seq (sh_reg r58x3ok) sh_ret)))
def A58 : List FV → Option X36 := fun l => match l with
  | [a] => some (X36.mk [] a .e .e .e .e .e .e .e .e .e .e .e .e .e .e .e .e .e .e .e .e .e .e .e .e .e .e .e .e .e .e .e .e .e .e .e)
  | _ => none
def L58 : LQ := shal P T36 S58 [.tmp 2] 4000 A58
def E58 : LA := evCall P t2.fa 4000 58
theorem G58 : Good P 58 L58 E58 := good_shal all2 (by kernel_rfl) (show FT P 58 = some (c58v, 36, [.tmp 2]) by kernel_rfl) S58ok (fun l x h => by
    unfold A58 at h
    split at h
    · cases h; exact ⟨by kernel_rfl, by kernel_rfl⟩
    · cases h) 4000
def c79v : Code := bodyOf P 79
def o79x0 : Array Oper := regO (pth [0] c79v)
def r79x0 : RG X30 := fun call yl x s κ => X30.rec (motive := fun _ => MO X30) (fun m a b c d f g h i l n o p r t u w y z A B C D E F G H I J K L s κ => allocC P 38 s (fun v0 s => κ (X30.mk m a b v0 d f g h i l n o p r t u w y z A B C D E F G H I J K L) s)) x s κ
theorem r79x0ok : RgOk P false o79x0 T30 r79x0 := fun _ _ x _ _ => by cases x; kernel_rfl
def o79x1 : Array Oper := regO (pth [1, 0] c79v)
def r79x1 : RG X30 := fun call yl x s κ => X30.rec (motive := fun _ => MO X30) (fun m a b c d f g h i l n o p r t u w y z A B C D E F G H I J K L s κ => buildC P 159 [(0, (.i .u32 1779033703)), (1, (.i .u32 3144134277)), (2, (.i .u32 1013904242)), (3, (.i .u32 2773480762)), (4, (.i .u32 1359893119)), (5, (.i .u32 2600822924)), (6, (.i .u32 528734635)), (7, (.i .u32 1541459225))] s (fun v0 s => allocC P 159 s (fun v1 s => stA v1 v0 8 s (fun _ s => κ (X30.mk m a b c v1 f g h v0 l n o p r t u w y z A B C D E F G H I J K L) s)))) x s κ
theorem r79x1ok : RgOk P false o79x1 T30 r79x1 := fun _ _ x _ _ => by cases x; kernel_rfl
def o79x2 : Array Oper := regO (pth [1, 1, 0, 0] c79v)
def r79x2 : RG X30 := fun call yl x s κ => X30.rec (motive := fun _ => MO X30) (fun m a b c d f g h i l n o p r t u w y z A B C D E F G H I J K L s κ => call 108 [a] s (fun v0 s => κ (X30.mk m a b c d f g h i a v0 o p r t u w y z A B C D E F G H I J K L) s)) x s κ
theorem r79x2ok : RgOk P false o79x2 T30 r79x2 := fun _ _ x _ _ => by cases x; kernel_rfl
def g79x3 : Code × Code := rngO (pth [1, 1, 0, 1, 0] c79v)
def o79x4 : Array Oper := regO (pth [1, 1, 1, 0] c79v)
def r79x4 : RG X30 := fun call yl x s κ => X30.rec (motive := fun _ => MO X30) (fun m a b c d f g h i l n o p r t u w y z A B C D E F G H I J K L s κ => allocC P 38 s (fun v0 s => κ (X30.mk m a b c d f v0 h i l n o p r t u w y z A B C D E F G H I J K L) s)) x s κ
theorem r79x4ok : RgOk P false o79x4 T30 r79x4 := fun _ _ x _ _ => by cases x; kernel_rfl
def o79x5 : Array Oper := regO (pth [1, 1, 1, 1, 0, 0] c79v)
def r79x5 : RG X30 := fun call yl x s κ => X30.rec (motive := fun _ => MO X30) (fun m a b c d f g h i l n o p r t u w y z A B C D E F G H I J K L s κ => κ (X30.mk m a b c d f g h i l n o p r (.i .i64 0) u w y z A B C D E F G H I J K L) s) x s κ
theorem r79x5ok : RgOk P false o79x5 T30 r79x5 := fun _ _ x _ _ => by cases x; kernel_rfl
def o79x6 : Array Oper := regO (pth [1, 1, 1, 1, 0, 1, 0, 0, 0] c79v)
def r79x6 : RG X30 := fun call yl x s κ => X30.rec (motive := fun _ => MO X30) (fun m a b c d f g h i l n o p r t u w y z A B C D E F G H I J K L s κ => binC t (.i .i64 32) 3 .lss P s (fun v0 s => κ (X30.mk m a b c d f g h i l n o p r t v0 w y z A B C D E F G H I J K L) s)) x s κ
theorem r79x6ok : RgOk P false o79x6 T30 r79x6 := fun _ _ x _ _ => by cases x; kernel_rfl
def o79x7 : Array Oper := regO (pth [1, 1, 1, 1, 0, 1, 0, 0, 1, 1, 0, 0, 0] c79v)
def r79x7 : RG X30 := fun call yl x s κ => X30.rec (motive := fun _ => MO X30) (fun m a b c d f g h i l n o p r t u w y z A B C D E F G H I J K L s κ => κ (X30.mk m a b c d f g t i l n o p r t u t y z A B C D E F G H I J K L) s) x s κ
theorem r79x7ok : RgOk P false o79x7 T30 r79x7 := fun _ _ x _ _ => by cases x; kernel_rfl
def o79x8 : Array Oper := regO (pth [1, 1, 1, 1, 0, 1, 0, 0, 1, 1, 0, 0, 1] c79v)
def r79x8 : RG X30 := fun call yl x s κ => X30.rec (motive := fun _ => MO X30) (fun m a b c d f g h i l n o p r t u w y z A B C D E F G H I J K L s κ => binC h (.i .i64 4) 3 .quo P s (fun v0 s => natK v0 fun j => iaP d 8 j 1 s (fun v1 s => ldV v1 false 1 s (fun v2 s => binC h (.i .i64 4) 3 .rem P s (fun v3 s => binC (.i .i64 8) v3 3 .mul P s (fun v4 s => binC (.i .i64 24) v4 3 .sub P s (fun v5 s => binC v2 v5 117 .shr P s (fun v6 s => cvV v6 .u8 s (fun v7 s => natK h fun j => iaP g 32 j 1 s (fun v8 s => stA v8 v7 1 s (fun _ s => κ (X30.mk m a b c d f g h i l n o p r t u w h h v0 v1 v2 h v3 v4 v5 v6 v7 v8 K L) s))))))))))) x s κ
theorem r79x8ok : RgOk P false o79x8 T30 r79x8 := fun _ _ x _ _ => by cases x; kernel_rfl
def o79x9 : Array Oper := regO (pth [1, 1, 1, 1, 0, 1, 0, 0, 1, 1, 1] c79v)
def r79x9 : RG X30 := fun call yl x s κ => X30.rec (motive := fun _ => MO X30) (fun m a b c d f g h i l n o p r t u w y z A B C D E F G H I J K L s κ => binC t (.i .i64 1) 3 .add P s (fun v0 s => κ (X30.mk m a b c d f g h i l n o p r v0 u w y z A B C D E F G H I J v0 L) s)) x s κ
theorem r79x9ok : RgOk P false o79x9 T30 r79x9 := fun _ _ x _ _ => by cases x; kernel_rfl
def o79x10 : Array Oper := regO (pth [1, 1, 1, 1, 1, 0] c79v)
def r79x10 : RG X30 := fun call yl x s κ => X30.rec (motive := fun _ => MO X30) (fun m a b c d f g h i l n o p r t u w y z A B C D E F G H I J K L s κ => ldV g true 32 s (fun v0 s => stA c v0 32 s (fun _ s => κ (X30.mk m a b c d f g h i l n o p r t u w y z A B C D E F G H I J K v0) s))) x s κ
theorem r79x10ok : RgOk P false o79x10 T30 r79x10 := fun _ _ x _ _ => by cases x; kernel_rfl
def S79 : SF X30 := (seqS (regS P t2.fq r79x0) (seqS (regS P t2.fq r79x1) (seqS (seqS (regS P t2.fq r79x2) (blkS 0 (rngS P t2.fq T30 (fun δ x => X30.rec (motive := fun _ => X30) (fun m a b c d f g h i l n o p r t u w y z A B C D E F G H I J K L => X30.mk (δ :: m) a b c d f g h i l n o p r t u w y z A B C D E F G H I J K L) x) (fun x => X30.rec (motive := fun _ => FV) (fun _ _ _ _ _ _ _ _ _ _ z _ _ _ _ _ _ _ _ _ _ _ _ _ _ _ _ _ _ _ _ => z) x) [10] g79x3.1 g79x3.2))) (seqS (regS P t2.fq r79x4) (seqS (seqS (regS P t2.fq r79x5) (blkS 2 (loopS (seqS (regS P t2.fq r79x6) (seqS (condS (fun x => X30.rec (motive := fun _ => FV) (fun _ _ _ _ _ _ _ _ _ _ _ _ _ _ _ z _ _ _ _ _ _ _ _ _ _ _ _ _ _ _ => z) x) skipS (exitS 2)) (seqS (blkS 3 (seqS (regS P t2.fq r79x7) (regS P t2.fq r79x8))) (regS P t2.fq r79x9))))))) (seqS (regS P t2.fq r79x10) retS))))))
theorem S79ok : Sh P t2.fq T30 c79v S79 := by
  have e : c79v = (.seq (.region 0 o79x0 false) (.seq (.region 1 o79x1 false) (.seq (.seq (.region 2 o79x2 false) (.block 0 (.rangeFunc (.tmp 9) #[10] g79x3.1 g79x3.2))) (.seq (.region 5 o79x4 false) (.seq (.seq (.region 6 o79x5 false) (.block 2 (.loop (.seq (.region 7 o79x6 false) (.seq (.cond (.tmp 14) .skip (.exit 2)) (.seq (.block 3 (.seq (.region 8 o79x7 false) (.region 9 o79x8 false))) (.region 10 o79x9 false))))))) (.seq (.region 11 o79x10 false) .ret)))))) := by kernel_rfl
  rw [e]
  exact (sh_seq (sh_reg r79x0ok) (sh_seq (sh_reg r79x1ok) (sh_seq (sh_seq (sh_reg r79x2ok) (sh_blk 0 (sh_rng (mk := (fun δ x => X30.rec (motive := fun _ => X30) (fun m a b c d f g h i l n o p r t u w y z A B C D E F G H I J K L => X30.mk (δ :: m) a b c d f g h i l n o p r t u w y z A B C D E F G H I J K L) x)) (get := (fun x => X30.rec (motive := fun _ => FV) (fun _ _ _ _ _ _ _ _ _ _ z _ _ _ _ _ _ _ _ _ _ _ _ _ _ _ _ _ _ _ _ => z) x)) (fun x => by cases x; rfl) (fun d x => by cases x; rfl)))) (sh_seq (sh_reg r79x4ok) (sh_seq (sh_seq (sh_reg r79x5ok) (sh_blk 2 (sh_loop (sh_seq (sh_reg r79x6ok) (sh_seq (sh_cond (fun x => by cases x; rfl) sh_skip (sh_exit 2)) (sh_seq (sh_blk 3 (sh_seq (sh_reg r79x7ok) (sh_reg r79x8ok))) (sh_reg r79x9ok))))))) (sh_seq (sh_reg r79x10ok) sh_ret))))))
def A79 : List FV → Option X30 := fun l => match l with
  | [a] => some (X30.mk [] a .e .e .e .e .e .e .e .e .e .e .e .e .e .e .e .e .e .e .e .e .e .e .e .e .e .e .e .e .e)
  | _ => none
def L79 : LQ := shal P T30 S79 [.cell 2 38] 4000 A79
def E79 : LA := evCall P t2.fa 4000 79
theorem G79 : Good P 79 L79 E79 := good_shal all2 (by kernel_rfl) (show FT P 79 = some (c79v, 30, [.cell 2 38]) by kernel_rfl) S79ok (fun l x h => by
    unfold A79 at h
    split at h
    · cases h; exact ⟨by kernel_rfl, by kernel_rfl⟩
    · cases h) 4000
def c112v : Code := bodyOf P 112
def o112x0 : Array Oper := regO (pth [0] c112v)
def r112x0 : RG X23 := fun call yl x s κ => X23.rec (motive := fun _ => MO X23) (fun m a b c d f g h i l n o p r t u w y z A B C D E s κ => κ (X23.mk m a b c d (.i .i64 0) g h i l n o p r t u w y z A B C D E) s) x s κ
theorem r112x0ok : RgOk P false o112x0 T23 r112x0 := fun _ _ x _ _ => by cases x; kernel_rfl
def o112x1 : Array Oper := regO (pth [1, 0] c112v)
def r112x1 : RG X23 := fun call yl x s κ => X23.rec (motive := fun _ => MO X23) (fun m a b c d f g h i l n o p r t u w y z A B C D E s κ => allocC P 3 s (fun v0 s => stA v0 (.i .i64 0) 1 s (fun _ s => κ (X23.mk m a b c d f v0 h i l n o p r t u w y z A B C D E) s))) x s κ
theorem r112x1ok : RgOk P false o112x1 T23 r112x1 := fun _ _ x _ _ => by cases x; kernel_rfl
def o112x2 : Array Oper := regO (pth [1, 1, 0, 0] c112v)
def r112x2 : RG X23 := fun call yl x s κ => X23.rec (motive := fun _ => MO X23) (fun m a b c d f g h i l n o p r t u w y z A B C D E s κ => nilC a s (fun v0 s => ptrK v0 1 s (fun v1 s => ldV v1 false 1 s (fun v2 s => callV v2 [b] call yl s (fun v3 s => call 141 [v3] s (fun v4 s => κ (X23.mk m a b c d f g h i a v0 v1 v2 b v3 v4 w y z A B C D E) s)))))) x s κ
theorem r112x2ok : RgOk P false o112x2 T23 r112x2 := fun _ _ x _ _ => by cases x; kernel_rfl
def g112x3 : Code × Code := rngO (pth [1, 1, 0, 1, 0] c112v)
def o112x4 : Array Oper := regO (pth [1, 1, 1, 0] c112v)
def r112x4 : RG X23 := fun call yl x s κ => X23.rec (motive := fun _ => MO X23) (fun m a b c d f g h i l n o p r t u w y z A B C D E s κ => ldV g false 1 s (fun v0 s => κ (X23.mk m a b c d v0 g h i l n o p r t u w y z A B C D v0) s)) x s κ
theorem r112x4ok : RgOk P false o112x4 T23 r112x4 := fun _ _ x _ _ => by cases x; kernel_rfl
def S112 : SF X23 := (seqS (regS P t2.fq r112x0) (seqS (regS P t2.fq r112x1) (seqS (seqS (regS P t2.fq r112x2) (blkS 0 (rngS P t2.fq T23 (fun δ x => X23.rec (motive := fun _ => X23) (fun m a b c d f g h i l n o p r t u w y z A B C D E => X23.mk (δ :: m) a b c d f g h i l n o p r t u w y z A B C D E) x) (fun x => X23.rec (motive := fun _ => FV) (fun _ _ _ _ _ _ _ _ _ _ _ _ _ _ _ z _ _ _ _ _ _ _ _ => z) x) [15, 16] g112x3.1 g112x3.2))) (seqS (regS P t2.fq r112x4) retS))))
theorem S112ok : Sh P t2.fq T23 c112v S112 := by
  have e : c112v = (.seq (.region 0 o112x0 false) (.seq (.region 1 o112x1 false) (.seq (.seq (.region 2 o112x2 false) (.block 0 (.rangeFunc (.tmp 14) #[15, 16] g112x3.1 g112x3.2))) (.seq (.region 5 o112x4 false) .ret)))) := by kernel_rfl
  rw [e]
  exact (sh_seq (sh_reg r112x0ok) (sh_seq (sh_reg r112x1ok) (sh_seq (sh_seq (sh_reg r112x2ok) (sh_blk 0 (sh_rng (mk := (fun δ x => X23.rec (motive := fun _ => X23) (fun m a b c d f g h i l n o p r t u w y z A B C D E => X23.mk (δ :: m) a b c d f g h i l n o p r t u w y z A B C D E) x)) (get := (fun x => X23.rec (motive := fun _ => FV) (fun _ _ _ _ _ _ _ _ _ _ _ _ _ _ _ z _ _ _ _ _ _ _ _ => z) x)) (fun x => by cases x; rfl) (fun d x => by cases x; rfl)))) (sh_seq (sh_reg r112x4ok) sh_ret))))
def A112 : List FV → Option X23 := fun l => match l with
  | [a, b] => some (X23.mk [] a b .e .e .e .e .e .e .e .e .e .e .e .e .e .e .e .e .e .e .e .e .e)
  | _ => none
def L112 : LQ := shal P T23 S112 [.tmp 4] 4000 A112
def E112 : LA := evCall P t2.fa 4000 112
theorem G112 : Good P 112 L112 E112 := good_shal all2 (by kernel_rfl) (show FT P 112 = some (c112v, 23, [.tmp 4]) by kernel_rfl) S112ok (fun l x h => by
    unfold A112 at h
    split at h
    · cases h; exact ⟨by kernel_rfl, by kernel_rfl⟩
    · cases h) 4000
def t3 : LT := (.n 63 L63 E63 (.n 38 L38 E38 (.n 26 L26 E26 (.n 18 L18 E18 (.n 10 L10 E10 (.n 6 L6 E6 (.n 5 L5 E5 .e .e) .e) (.n 17 L17 E17 .e .e)) (.n 20 L20 E20 (.n 19 L19 E19 .e .e) (.n 21 L21 E21 .e .e))) (.n 32 L32 E32 (.n 30 L30 E30 (.n 29 L29 E29 .e .e) (.n 31 L31 E31 .e .e)) (.n 34 L34 E34 (.n 33 L33 E33 .e .e) (.n 35 L35 E35 .e .e)))) (.n 49 L49 E49 (.n 42 L42 E42 (.n 40 L40 E40 (.n 39 L39 E39 .e .e) (.n 41 L41 E41 .e .e)) (.n 44 L44 E44 (.n 43 L43 E43 .e .e) (.n 46 L46 E46 .e .e))) (.n 57 L57 E57 (.n 54 L54 E54 (.n 53 L53 E53 .e .e) (.n 55 L55 E55 .e .e)) (.n 61 L61 E61 (.n 58 L58 E58 .e .e) (.n 62 L62 E62 .e .e))))) (.n 93 L93 E93 (.n 79 L79 E79 (.n 70 L70 E70 (.n 68 L68 E68 (.n 66 L66 E66 (.n 64 L64 E64 .e .e) .e) (.n 69 L69 E69 .e .e)) (.n 73 L73 E73 (.n 72 L72 E72 .e .e) (.n 75 L75 E75 .e .e))) (.n 86 L86 E86 (.n 81 L81 E81 (.n 80 L80 E80 .e .e) (.n 85 L85 E85 .e .e)) (.n 90 L90 E90 (.n 89 L89 E89 .e .e) (.n 92 L92 E92 .e .e)))) (.n 117 L117 E117 (.n 109 L109 E109 (.n 102 L102 E102 (.n 99 L99 E99 .e .e) (.n 108 L108 E108 .e .e)) (.n 111 L111 E111 (.n 110 L110 E110 .e .e) (.n 112 L112 E112 .e .e))) (.n 139 L139 E139 (.n 120 L120 E120 (.n 118 L118 E118 .e .e) (.n 136 L136 E136 .e .e)) (.n 141 L141 E141 (.n 140 L140 E140 .e .e) (.n 160 L160 E160 .e .e))))))
theorem all3 : t3.all (Good P) := ⟨G63, ⟨G38, ⟨G26, ⟨G18, ⟨G10, ⟨G6, ⟨G5, trivial, trivial⟩, trivial⟩, ⟨G17, trivial, trivial⟩⟩, ⟨G20, ⟨G19, trivial, trivial⟩, ⟨G21, trivial, trivial⟩⟩⟩, ⟨G32, ⟨G30, ⟨G29, trivial, trivial⟩, ⟨G31, trivial, trivial⟩⟩, ⟨G34, ⟨G33, trivial, trivial⟩, ⟨G35, trivial, trivial⟩⟩⟩⟩, ⟨G49, ⟨G42, ⟨G40, ⟨G39, trivial, trivial⟩, ⟨G41, trivial, trivial⟩⟩, ⟨G44, ⟨G43, trivial, trivial⟩, ⟨G46, trivial, trivial⟩⟩⟩, ⟨G57, ⟨G54, ⟨G53, trivial, trivial⟩, ⟨G55, trivial, trivial⟩⟩, ⟨G61, ⟨G58, trivial, trivial⟩, ⟨G62, trivial, trivial⟩⟩⟩⟩⟩, ⟨G93, ⟨G79, ⟨G70, ⟨G68, ⟨G66, ⟨G64, trivial, trivial⟩, trivial⟩, ⟨G69, trivial, trivial⟩⟩, ⟨G73, ⟨G72, trivial, trivial⟩, ⟨G75, trivial, trivial⟩⟩⟩, ⟨G86, ⟨G81, ⟨G80, trivial, trivial⟩, ⟨G85, trivial, trivial⟩⟩, ⟨G90, ⟨G89, trivial, trivial⟩, ⟨G92, trivial, trivial⟩⟩⟩⟩, ⟨G117, ⟨G109, ⟨G102, ⟨G99, trivial, trivial⟩, ⟨G108, trivial, trivial⟩⟩, ⟨G111, ⟨G110, trivial, trivial⟩, ⟨G112, trivial, trivial⟩⟩⟩, ⟨G139, ⟨G120, ⟨G118, trivial, trivial⟩, ⟨G136, trivial, trivial⟩⟩, ⟨G141, ⟨G140, trivial, trivial⟩, ⟨G160, trivial, trivial⟩⟩⟩⟩⟩⟩
end
end V
end Go.CE
