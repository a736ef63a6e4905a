/-
  Laws of functions by the functions of their slots, printed by a program of mine.
-/
import Derived.Test.YtednpkiegiiimaaGreatDoorPkRzOne
set_option linter.unusedSectionVars false
set_option linter.constructorNameAsVariable false
set_option linter.unusedVariables false
set_option linter.unusedSimpArgs false
namespace Go.CE
namespace V
set_option maxRecDepth 100000
noncomputable section
variable [Sym] [SymOk]
inductive X62 where
  | mk (m : List Nat) (a b c d f g h i l n o p r t u w y z A B C D E F G H I J K L M N O Q R S T U W Y Z a1 b1 c1 d1 f1 g1 h1 i1 l1 n1 o1 p1 r1 t1 u1 w1 y1 z1 A1 B1 C1 : FV)
def T62 (x : X62) : FF := X62.rec (motive := fun _ => FF) (fun m a b c d f g h i l n o p r t u w y z A B C D E F G H I J K L M N O Q R S T U W Y Z a1 b1 c1 d1 f1 g1 h1 i1 l1 n1 o1 p1 r1 t1 u1 w1 y1 z1 A1 B1 C1 => ⟨(.n a (.n b (.n g (.n D .e .e .e .e) (.n U .e .e .e .e) (.n r1 .e .e .e .e) .e) (.n n (.n H .e .e .e .e) (.n a1 .e .e .e .e) (.n y1 .e .e .e .e) .e) (.n t (.n L .e .e .e .e) (.n f1 .e .e .e .e) (.n C1 .e .e .e .e) .e) (.n z (.n Q .e .e .e .e) (.n l1 .e .e .e .e) .e .e)) (.n c (.n h (.n E .e .e .e .e) (.n W .e .e .e .e) (.n t1 .e .e .e .e) .e) (.n o (.n I .e .e .e .e) (.n b1 .e .e .e .e) (.n z1 .e .e .e .e) .e) (.n u (.n M .e .e .e .e) (.n g1 .e .e .e .e) .e .e) (.n A (.n R .e .e .e .e) (.n n1 .e .e .e .e) .e .e)) (.n d (.n i (.n F .e .e .e .e) (.n Y .e .e .e .e) (.n u1 .e .e .e .e) .e) (.n p (.n J .e .e .e .e) (.n c1 .e .e .e .e) (.n A1 .e .e .e .e) .e) (.n w (.n N .e .e .e .e) (.n h1 .e .e .e .e) .e .e) (.n B (.n S .e .e .e .e) (.n o1 .e .e .e .e) .e .e)) (.n f (.n l (.n G .e .e .e .e) (.n Z .e .e .e .e) (.n w1 .e .e .e .e) .e) (.n r (.n K .e .e .e .e) (.n d1 .e .e .e .e) (.n B1 .e .e .e .e) .e) (.n y (.n O .e .e .e .e) (.n i1 .e .e .e .e) .e .e) (.n C (.n T .e .e .e .e) (.n p1 .e .e .e .e) .e .e))), 62, m⟩) x
def c22v : Code := bodyOf P 22
def o22x0 : Array Oper := regO (pth [0] c22v)
def r22x0 : RG X62 := fun call yl x s κ => X62.rec (motive := fun _ => MO X62) (fun m a b c d f g h i l n o p r t u w y z A B C D E F G H I J K L M N O Q R S T U W Y Z a1 b1 c1 d1 f1 g1 h1 i1 l1 n1 o1 p1 r1 t1 u1 w1 y1 z1 A1 B1 C1 s κ => bxV a 75 s (fun v0 s => κ (X62.mk m a v0 (.b false) d f g h i l n o p r t u w y z A B C D E F G H I J K L M N O Q R S T U W Y Z a1 b1 c1 d1 f1 g1 h1 i1 l1 n1 o1 p1 r1 t1 u1 w1 y1 z1 A1 B1 C1) s)) x s κ
theorem r22x0ok : RgOk P false o22x0 T62 r22x0 := fun _ _ x _ _ => by cases x; kernel_rfl
def o22x1 : Array Oper := regO (pth [1, 0] c22v)
def r22x1 : RG X62 := fun call yl x s κ => X62.rec (motive := fun _ => MO X62) (fun m a b c d f g h i l n o p r t u w y z A B C D E F G H I J K L M N O Q R S T U W Y Z a1 b1 c1 d1 f1 g1 h1 i1 l1 n1 o1 p1 r1 t1 u1 w1 y1 z1 A1 B1 C1 s κ => κ (X62.mk m a b c (.b true) f g h i l n o p r t u w y z A B C D E F G H I J K L M N O Q R S T U W Y Z a1 b1 c1 d1 f1 g1 h1 i1 l1 n1 o1 p1 r1 t1 u1 w1 y1 z1 A1 B1 C1) s) x s κ
theorem r22x1ok : RgOk P false o22x1 T62 r22x1 := fun _ _ x _ _ => by cases x; kernel_rfl
def o22x2 : Array Oper := regO (pth [1, 1, 0, 0] c22v)
def r22x2 : RG X62 := fun call yl x s κ => X62.rec (motive := fun _ => MO X62) (fun m a b c d f g h i l n o p r t u w y z A B C D E F G H I J K L M N O Q R S T U W Y Z a1 b1 c1 d1 f1 g1 h1 i1 l1 n1 o1 p1 r1 t1 u1 w1 y1 z1 A1 B1 C1 s κ => ptrK b 3 s (fun v0 s => ldV v0 false 1 s (fun v1 s => lenC v1 P 23 s (fun v2 s => κ (X62.mk m a b c d f g v0 v1 v2 (.i .i64 0) o p r t u w y z A B C D E F G H I J K L M N O Q R S T U W Y Z a1 b1 c1 d1 f1 g1 h1 i1 l1 n1 o1 p1 r1 t1 u1 w1 y1 z1 A1 B1 C1) s)))) x s κ
theorem r22x2ok : RgOk P false o22x2 T62 r22x2 := fun _ _ x _ _ => by cases x; kernel_rfl
def o22x3 : Array Oper := regO (pth [1, 1, 0, 1, 0, 0, 0] c22v)
def r22x3 : RG X62 := fun call yl x s κ => X62.rec (motive := fun _ => MO X62) (fun m a b c d f g h i l n o p r t u w y z A B C D E F G H I J K L M N O Q R S T U W Y Z a1 b1 c1 d1 f1 g1 h1 i1 l1 n1 o1 p1 r1 t1 u1 w1 y1 z1 A1 B1 C1 s κ => binC n l 3 .lss P s (fun v0 s => κ (X62.mk m a b c d f g h i l n v0 p r t u w y z A B C D E F G H I J K L M N O Q R S T U W Y Z a1 b1 c1 d1 f1 g1 h1 i1 l1 n1 o1 p1 r1 t1 u1 w1 y1 z1 A1 B1 C1) s)) x s κ
theorem r22x3ok : RgOk P false o22x3 T62 r22x3 := fun _ _ x _ _ => by cases x; kernel_rfl
def o22x4 : Array Oper := regO (pth [1, 1, 0, 1, 0, 0, 1, 1, 0, 0, 0] c22v)
def r22x4 : RG X62 := fun call yl x s κ => X62.rec (motive := fun _ => MO X62) (fun m a b c d f g h i l n o p r t u w y z A B C D E F G H I J K L M N O Q R S T U W Y Z a1 b1 c1 d1 f1 g1 h1 i1 l1 n1 o1 p1 r1 t1 u1 w1 y1 z1 A1 B1 C1 s κ => natK n fun j => iaS i j 1 s (fun v0 s => ldV v0 false 1 s (fun v1 s => κ (X62.mk m a b c d n v1 h i l n o n v0 v1 u w y z A B C D E F G H I J K L M N O Q R S T U W Y Z a1 b1 c1 d1 f1 g1 h1 i1 l1 n1 o1 p1 r1 t1 u1 w1 y1 z1 A1 B1 C1) s))) x s κ
theorem r22x4ok : RgOk P false o22x4 T62 r22x4 := fun _ _ x _ _ => by cases x; kernel_rfl
def o22x5 : Array Oper := regO (pth [1, 1, 0, 1, 0, 0, 1, 1, 0, 0, 1] c22v)
def r22x5 : RG X62 := fun call yl x s κ => X62.rec (motive := fun _ => MO X62) (fun m a b c d f g h i l n o p r t u w y z A B C D E F G H I J K L M N O Q R S T U W Y Z a1 b1 c1 d1 f1 g1 h1 i1 l1 n1 o1 p1 r1 t1 u1 w1 y1 z1 A1 B1 C1 s κ => bnk (fun κ1 => wantC d true (κ1 g s) (κ1 .e s)) (fun v0 s => bnk (fun κ1 => wantC d true (call 46 [v0, (.i .i64 0), (.i .i64 15)] s (κ1)) (κ1 .e s)) (fun v1 s => bnk (fun κ0 => condB d (κ0 v1 s) (κ0 (.b false) s)) (fun v2 s => bnk (fun κ1 => wantC v2 true (κ1 g s) (κ1 .e s)) (fun v3 s => bnk (fun κ1 => wantC v2 true (ptrK b 1 s (κ1)) (κ1 .e s)) (fun v4 s => bnk (fun κ1 => wantC v2 true (ldV v4 false 1 s (κ1)) (κ1 .e s)) (fun v5 s => bnk (fun κ1 => wantC v2 true (binC v3 v5 3 .neq P s (κ1)) (κ1 .e s)) (fun v6 s => bnk (fun κ0 => condB v2 (κ0 v6 s) (κ0 (.b false) s)) (fun v7 s => bnk (fun κ1 => wantC v7 true (κ1 f s) (κ1 .e s)) (fun v8 s => bnk (fun κ1 => wantC v7 true (binC v8 (.i .i64 0) 3 .eql P s (κ1)) (κ1 .e s)) (fun v9 s => bnk (fun κ1 => wantC v7 true (κ1 v9 s) (κ1 .e s)) (fun v10 s => bnk (fun κ1 => wantC v10 false (ptrK b 3 s (κ1)) (κ1 .e s)) (fun v11 s => bnk (fun κ1 => wantC v10 false (ldV v11 false 1 s (κ1)) (κ1 .e s)) (fun v12 s => bnk (fun κ1 => wantC v10 false (κ1 f s) (κ1 .e s)) (fun v13 s => bnk (fun κ1 => wantC v10 false (binC v13 (.i .i64 1) 3 .sub P s (κ1)) (κ1 .e s)) (fun v14 s => bnk (fun κ1 => wantC v10 false (natK v14 fun j => iaS v12 j 1 s (κ1)) (κ1 .e s)) (fun v15 s => bnk (fun κ1 => wantC v10 false (ldV v15 false 1 s (κ1)) (κ1 .e s)) (fun v16 s => bnk (fun κ1 => wantC v10 false (κ1 g s) (κ1 .e s)) (fun v17 s => bnk (fun κ1 => wantC v10 false (binC v16 v17 3 .lss P s (κ1)) (κ1 .e s)) (fun v18 s => bnk (fun κ1 => wantC v7 true (bnk (fun κ0 => condB v10 (κ0 (.b true) s) (κ0 v18 s)) (κ1)) (κ1 .e s)) (fun v19 s => bnk (fun κ0 => condB v7 (κ0 v19 s) (κ0 (.b false) s)) (fun v20 s => κ (X62.mk m a b c v20 f g h i l n o p r t d d v0 v1 v2 v2 v3 v4 v5 v6 v7 v7 v8 v9 v10 v11 v12 v13 v14 v15 v16 v17 v18 v19 v20 Y Z a1 b1 c1 d1 f1 g1 h1 i1 l1 n1 o1 p1 r1 t1 u1 w1 y1 z1 A1 B1 C1) s)))))))))))))))))))))) x s κ
theorem r22x5ok : RgOk P false o22x5 T62 r22x5 := fun _ _ x _ _ => by cases x; kernel_rfl
def o22x6 : Array Oper := regO (pth [1, 1, 0, 1, 0, 0, 1, 1, 1] c22v)
def r22x6 : RG X62 := fun call yl x s κ => X62.rec (motive := fun _ => MO X62) (fun m a b c d f g h i l n o p r t u w y z A B C D E F G H I J K L M N O Q R S T U W Y Z a1 b1 c1 d1 f1 g1 h1 i1 l1 n1 o1 p1 r1 t1 u1 w1 y1 z1 A1 B1 C1 s κ => binC n (.i .i64 1) 3 .add P s (fun v0 s => κ (X62.mk m a b c d f g h i l v0 o p r t u w y z A B C D E F G H I J K L M N O Q R S T U W v0 Z a1 b1 c1 d1 f1 g1 h1 i1 l1 n1 o1 p1 r1 t1 u1 w1 y1 z1 A1 B1 C1) s)) x s κ
theorem r22x6ok : RgOk P false o22x6 T62 r22x6 := fun _ _ x _ _ => by cases x; kernel_rfl
def o22x7 : Array Oper := regO (pth [1, 1, 1, 0] c22v)
def r22x7 : RG X62 := fun call yl x s κ => X62.rec (motive := fun _ => MO X62) (fun m a b c d f g h i l n o p r t u w y z A B C D E F G H I J K L M N O Q R S T U W Y Z a1 b1 c1 d1 f1 g1 h1 i1 l1 n1 o1 p1 r1 t1 u1 w1 y1 z1 A1 B1 C1 s κ => bnk (fun κ1 => wantC d true (ptrK b 0 s (κ1)) (κ1 .e s)) (fun v0 s => bnk (fun κ1 => wantC d true (ldV v0 false 1 s (κ1)) (κ1 .e s)) (fun v1 s => bnk (fun κ1 => wantC d true (call 46 [v1, (.i .i64 1), (.i .i64 1099511627776)] s (κ1)) (κ1 .e s)) (fun v2 s => bnk (fun κ0 => condB d (κ0 v2 s) (κ0 (.b false) s)) (fun v3 s => bnk (fun κ1 => wantC v3 true (ptrK b 1 s (κ1)) (κ1 .e s)) (fun v4 s => bnk (fun κ1 => wantC v3 true (ldV v4 false 1 s (κ1)) (κ1 .e s)) (fun v5 s => bnk (fun κ1 => wantC v3 true (call 46 [v5, (.i .i64 0), (.i .i64 15)] s (κ1)) (κ1 .e s)) (fun v6 s => bnk (fun κ0 => condB v3 (κ0 v6 s) (κ0 (.b false) s)) (fun v7 s => bnk (fun κ1 => wantC v7 true (ptrK b 2 s (κ1)) (κ1 .e s)) (fun v8 s => bnk (fun κ1 => wantC v7 true (ldV v8 false 1 s (κ1)) (κ1 .e s)) (fun v9 s => bnk (fun κ1 => wantC v7 true (call 46 [v9, (.i .i64 0), (.i .i64 2251799813685248)] s (κ1)) (κ1 .e s)) (fun v10 s => bnk (fun κ0 => condB v7 (κ0 v10 s) (κ0 (.b false) s)) (fun v11 s => bnk (fun κ1 => wantC v11 true (ptrK b 3 s (κ1)) (κ1 .e s)) (fun v12 s => bnk (fun κ1 => wantC v11 true (ldV v12 false 1 s (κ1)) (κ1 .e s)) (fun v13 s => bnk (fun κ1 => wantC v11 true (lenC v13 P 23 s (κ1)) (κ1 .e s)) (fun v14 s => bnk (fun κ1 => wantC v11 true (call 46 [v14, (.i .i64 1), (.i .i64 15)] s (κ1)) (κ1 .e s)) (fun v15 s => bnk (fun κ0 => condB v11 (κ0 v15 s) (κ0 (.b false) s)) (fun v16 s => κ (X62.mk m a b v16 d f g h i l n o p r t u w y z A B C D E F G H I J K L M N O Q R S T U W Y d d v0 v1 v2 v3 v3 v4 v5 v6 v7 v7 v8 v9 v10 v11 v11 v12 v13 v14 v15 v16) s)))))))))))))))))) x s κ
theorem r22x7ok : RgOk P false o22x7 T62 r22x7 := fun _ _ x _ _ => by cases x; kernel_rfl
def S22 : SF X62 := (seqS (regS P t1.fq r22x0) (seqS (regS P t1.fq r22x1) (seqS (seqS (regS P t1.fq r22x2) (blkS 0 (loopS (seqS (regS P t1.fq r22x3) (seqS (condS (fun x => X62.rec (motive := fun _ => FV) (fun _ _ _ _ _ _ _ _ _ _ _ z _ _ _ _ _ _ _ _ _ _ _ _ _ _ _ _ _ _ _ _ _ _ _ _ _ _ _ _ _ _ _ _ _ _ _ _ _ _ _ _ _ _ _ _ _ _ _ _ _ _ _ => z) x) skipS (exitS 0)) (seqS (blkS 1 (seqS (regS P t1.fq r22x4) (regS P t1.fq r22x5))) (regS P t1.fq r22x6))))))) (seqS (regS P t1.fq r22x7) retS))))
theorem S22ok : Sh P t1.fq T62 c22v S22 := by
  have e : c22v = (.seq (.region 0 o22x0 false) (.seq (.region 1 o22x1 false) (.seq (.seq (.region 2 o22x2 false) (.block 0 (.loop (.seq (.region 3 o22x3 false) (.seq (.cond (.tmp 10) .skip (.exit 0)) (.seq (.block 1 (.seq (.region 4 o22x4 false) (.region 5 o22x5 false))) (.region 6 o22x6 false))))))) (.seq (.region 7 o22x7 false) .ret)))) := by kernel_rfl
  rw [e]
  exact (sh_seq (sh_reg r22x0ok) (sh_seq (sh_reg r22x1ok) (sh_seq (sh_seq (sh_reg r22x2ok) (sh_blk 0 (sh_loop (sh_seq (sh_reg r22x3ok) (sh_seq (sh_cond (fun x => by cases x; rfl) sh_skip (sh_exit 0)) (sh_seq (sh_blk 1 (sh_seq (sh_reg r22x4ok) (sh_reg r22x5ok))) (sh_reg r22x6ok))))))) (sh_seq (sh_reg r22x7ok) sh_ret))))
def A22 : List FV → Option X62 := fun l => match l with
  | [a] => some (X62.mk [] a .e .e .e .e .e .e .e .e .e .e .e .e .e .e .e .e .e .e .e .e .e .e .e .e .e .e .e .e .e .e .e .e .e .e .e .e .e .e .e .e .e .e .e .e .e .e .e .e .e .e .e .e .e .e .e .e .e .e .e .e .e)
  | _ => none
def L22 : LQ := shal P T62 S22 [.tmp 2] 4000 A22
def E22 : LA := evCall P t1.fa 4000 22
theorem G22 : Good P 22 L22 E22 := good_shal all1 (by kernel_rfl) (show FT P 22 = some (c22v, 62, [.tmp 2]) by kernel_rfl) S22ok (fun l x h => by
    unfold A22 at h
    split at h
    · cases h; exact ⟨by kernel_rfl, by kernel_rfl⟩
    · cases h) 4000
inductive X22 where
  | mk (m : List Nat) (a b c d f g h i l n o p r t u w y z A B C D : FV)
def T22 (x : X22) : FF := X22.rec (motive := fun _ => FF) (fun m a b c d f g h i l n o p r t u w y z A B C D => ⟨(.n a (.n b (.n g (.n D .e .e .e .e) .e .e .e) (.n n .e .e .e .e) (.n t .e .e .e .e) (.n z .e .e .e .e)) (.n c (.n h .e .e .e .e) (.n o .e .e .e .e) (.n u .e .e .e .e) (.n A .e .e .e .e)) (.n d (.n i .e .e .e .e) (.n p .e .e .e .e) (.n w .e .e .e .e) (.n B .e .e .e .e)) (.n f (.n l .e .e .e .e) (.n r .e .e .e .e) (.n y .e .e .e .e) (.n C .e .e .e .e))), 22, m⟩) x
def c33v : Code := bodyOf P 33
def o33x0 : Array Oper := regO (pth [0] c33v)
def r33x0 : RG X22 := fun call yl x s κ => X22.rec (motive := fun _ => MO X22) (fun m a b c d f g h i l n o p r t u w y z A B C D s κ => κ (X22.mk m a b (.o (.sl none 0 0)) d f g h i l n o p r t u w y z A B C D) s) x s κ
theorem r33x0ok : RgOk P false o33x0 T22 r33x0 := fun _ _ x _ _ => by cases x; kernel_rfl
def o33x1 : Array Oper := regO (pth [1, 0] c33v)
def r33x1 : RG X22 := fun call yl x s κ => X22.rec (motive := fun _ => MO X22) (fun m a b c d f g h i l n o p r t u w y z A B C D s κ => κ (X22.mk m a b c (.o (.sl none 0 0)) f g h i l n o p r t u w y z A B C D) s) x s κ
theorem r33x1ok : RgOk P false o33x1 T22 r33x1 := fun _ _ x _ _ => by cases x; kernel_rfl
def o33x2 : Array Oper := regO (pth [1, 1, 0, 0] c33v)
def r33x2 : RG X22 := fun call yl x s κ => X22.rec (motive := fun _ => MO X22) (fun m a b c d f g h i l n o p r t u w y z A B C D s κ => lenC a P 30 s (fun v0 s => κ (X22.mk m a b c d f g a v0 (.i .i64 0) n o p r t u w y z A B C D) s)) x s κ
theorem r33x2ok : RgOk P false o33x2 T22 r33x2 := fun _ _ x _ _ => by cases x; kernel_rfl
def o33x3 : Array Oper := regO (pth [1, 1, 0, 1, 0, 0, 0] c33v)
def r33x3 : RG X22 := fun call yl x s κ => X22.rec (motive := fun _ => MO X22) (fun m a b c d f g h i l n o p r t u w y z A B C D s κ => binC l i 3 .lss P s (fun v0 s => κ (X22.mk m a b c d f g h i l v0 o p r t u w y z A B C D) s)) x s κ
theorem r33x3ok : RgOk P false o33x3 T22 r33x3 := fun _ _ x _ _ => by cases x; kernel_rfl
def o33x4 : Array Oper := regO (pth [1, 1, 0, 1, 0, 0, 1, 1, 0, 0, 0] c33v)
def r33x4 : RG X22 := fun call yl x s κ => X22.rec (motive := fun _ => MO X22) (fun m a b c d f g h i l n o p r t u w y z A B C D s κ => natK l fun j => iaS h j 36 s (fun v0 s => ldV v0 true 36 s (fun v1 s => allocC P 59 s (fun v2 s => stA v2 v1 36 s (fun _ s => κ (X22.mk m a b c d f v2 h i l n v0 v1 r t u w y z A B C D) s))))) x s κ
theorem r33x4ok : RgOk P false o33x4 T22 r33x4 := fun _ _ x _ _ => by cases x; kernel_rfl
def o33x5 : Array Oper := regO (pth [1, 1, 0, 1, 0, 0, 1, 1, 0, 0, 1, 0] c33v)
def r33x5 : RG X22 := fun call yl x s κ => X22.rec (motive := fun _ => MO X22) (fun m a b c d f g h i l n o p r t u w y z A B C D s κ => ptrK g 3 s (fun v0 s => ldV v0 false 1 s (fun v1 s => call 66 [v1] s (fun v2 s => ptrK g 3 s (fun v3 s => stA v3 v2 1 s (fun _ s => κ (X22.mk m a b c d f g h i l n o p v0 v1 v2 v3 y z A B C D) s)))))) x s κ
theorem r33x5ok : RgOk P false o33x5 T22 r33x5 := fun _ _ x _ _ => by cases x; kernel_rfl
def o33x6 : Array Oper := regO (pth [1, 1, 0, 1, 0, 0, 1, 1, 0, 0, 1, 1] c33v)
def r33x6 : RG X22 := fun call yl x s κ => X22.rec (motive := fun _ => MO X22) (fun m a b c d f g h i l n o p r t u w y z A B C D s κ => ldV g true 36 s (fun v0 s => buildSliceC P 30 1 [(0, v0)] s (fun v1 s => appendC P 30 30 d v1 s (fun v2 s => κ (X22.mk m a b c v2 f g h i l n o p r t u w d v0 v1 v2 C D) s)))) x s κ
theorem r33x6ok : RgOk P false o33x6 T22 r33x6 := fun _ _ x _ _ => by cases x; kernel_rfl
def o33x7 : Array Oper := regO (pth [1, 1, 0, 1, 0, 0, 1, 1, 1] c33v)
def r33x7 : RG X22 := fun call yl x s κ => X22.rec (motive := fun _ => MO X22) (fun m a b c d f g h i l n o p r t u w y z A B C D s κ => binC l (.i .i64 1) 3 .add P s (fun v0 s => κ (X22.mk m a b c d f g h i v0 n o p r t u w y z A B v0 D) s)) x s κ
theorem r33x7ok : RgOk P false o33x7 T22 r33x7 := fun _ _ x _ _ => by cases x; kernel_rfl
def o33x8 : Array Oper := regO (pth [1, 1, 1, 0] c33v)
def r33x8 : RG X22 := fun call yl x s κ => X22.rec (motive := fun _ => MO X22) (fun m a b c d f g h i l n o p r t u w y z A B C D s κ => κ (X22.mk m a b d d f g h i l n o p r t u w y z A B C d) s) x s κ
theorem r33x8ok : RgOk P false o33x8 T22 r33x8 := fun _ _ x _ _ => by cases x; kernel_rfl
def S33 : SF X22 := (seqS (regS P t1.fq r33x0) (seqS (regS P t1.fq r33x1) (seqS (seqS (regS P t1.fq r33x2) (blkS 0 (loopS (seqS (regS P t1.fq r33x3) (seqS (condS (fun x => X22.rec (motive := fun _ => FV) (fun _ _ _ _ _ _ _ _ _ _ z _ _ _ _ _ _ _ _ _ _ _ _ => z) x) skipS (exitS 0)) (seqS (blkS 1 (seqS (regS P t1.fq r33x4) (seqS (regS P t1.fq r33x5) (regS P t1.fq r33x6)))) (regS P t1.fq r33x7))))))) (seqS (regS P t1.fq r33x8) retS))))
theorem S33ok : Sh P t1.fq T22 c33v S33 := by
  have e : c33v = (.seq (.region 0 o33x0 false) (.seq (.region 1 o33x1 false) (.seq (.seq (.region 2 o33x2 false) (.block 0 (.loop (.seq (.region 3 o33x3 false) (.seq (.cond (.tmp 9) .skip (.exit 0)) (.seq (.block 1 (.seq (.region 4 o33x4 false) (.seq (.region 5 o33x5 false) (.region 6 o33x6 false)))) (.region 7 o33x7 false))))))) (.seq (.region 8 o33x8 false) .ret)))) := by kernel_rfl
  rw [e]
  exact (sh_seq (sh_reg r33x0ok) (sh_seq (sh_reg r33x1ok) (sh_seq (sh_seq (sh_reg r33x2ok) (sh_blk 0 (sh_loop (sh_seq (sh_reg r33x3ok) (sh_seq (sh_cond (fun x => by cases x; rfl) sh_skip (sh_exit 0)) (sh_seq (sh_blk 1 (sh_seq (sh_reg r33x4ok) (sh_seq (sh_reg r33x5ok) (sh_reg r33x6ok)))) (sh_reg r33x7ok))))))) (sh_seq (sh_reg r33x8ok) sh_ret))))
def A33 : List FV → Option X22 := fun l => match l with
  | [a] => some (X22.mk [] a .e .e .e .e .e .e .e .e .e .e .e .e .e .e .e .e .e .e .e .e .e)
  | _ => none
def L33 : LQ := shal P T22 S33 [.tmp 2] 4000 A33
def E33 : LA := evCall P t1.fa 4000 33
theorem G33 : Good P 33 L33 E33 := good_shal all1 (by kernel_rfl) (show FT P 33 = some (c33v, 22, [.tmp 2]) by kernel_rfl) S33ok (fun l x h => by
    unfold A33 at h
    split at h
    · cases h; exact ⟨by kernel_rfl, by kernel_rfl⟩
    · cases h) 4000
inductive X25 where
  | mk (m : List Nat) (a b c d f g h i l n o p r t u w y z A B C D E F G : FV)
def T25 (x : X25) : FF := X25.rec (motive := fun _ => FF) (fun m a b c d f g h i l n o p r t u w y z A B C D E F G => ⟨(.n a (.n b (.n g (.n D .e .e .e .e) .e .e .e) (.n n .e .e .e .e) (.n t .e .e .e .e) (.n z .e .e .e .e)) (.n c (.n h (.n E .e .e .e .e) .e .e .e) (.n o .e .e .e .e) (.n u .e .e .e .e) (.n A .e .e .e .e)) (.n d (.n i (.n F .e .e .e .e) .e .e .e) (.n p .e .e .e .e) (.n w .e .e .e .e) (.n B .e .e .e .e)) (.n f (.n l (.n G .e .e .e .e) .e .e .e) (.n r .e .e .e .e) (.n y .e .e .e .e) (.n C .e .e .e .e))), 25, m⟩) x
def c57v : Code := bodyOf P 57
def o57x0 : Array Oper := regO (pth [0] c57v)
def r57x0 : RG X25 := fun call yl x s κ => X25.rec (motive := fun _ => MO X25) (fun m a b c d f g h i l n o p r t u w y z A B C D E F G s κ => ldV b false 1 s (fun v0 s => lenC v0 P 23 s (fun v1 s => κ (X25.mk m a b c d f g h v0 v1 (.i .i64 0) o p r t u w y z A B C D E F G) s))) x s κ
theorem r57x0ok : RgOk P false o57x0 T25 r57x0 := fun _ _ x _ _ => by cases x; kernel_rfl
def o57x1 : Array Oper := regO (pth [1, 0, 0, 0] c57v)
def r57x1 : RG X25 := fun call yl x s κ => X25.rec (motive := fun _ => MO X25) (fun m a b c d f g h i l n o p r t u w y z A B C D E F G s κ => binC n l 3 .lss P s (fun v0 s => κ (X25.mk m a b c d f g h i l n v0 p r t u w y z A B C D E F G) s)) x s κ
theorem r57x1ok : RgOk P false o57x1 T25 r57x1 := fun _ _ x _ _ => by cases x; kernel_rfl
def o57x2 : Array Oper := regO (pth [1, 0, 0, 1, 1, 0, 0, 0] c57v)
def r57x2 : RG X25 := fun call yl x s κ => X25.rec (motive := fun _ => MO X25) (fun m a b c d f g h i l n o p r t u w y z A B C D E F G s κ => natK n fun j => iaS i j 1 s (fun v0 s => ldV v0 false 1 s (fun v1 s => κ (X25.mk m a b c d f v1 h i l n o v0 v1 t u w y z A B C D E F G) s))) x s κ
theorem r57x2ok : RgOk P false o57x2 T25 r57x2 := fun _ _ x _ _ => by cases x; kernel_rfl
def o57x3 : Array Oper := regO (pth [1, 0, 0, 1, 1, 0, 0, 1, 0] c57v)
def r57x3 : RG X25 := fun call yl x s κ => X25.rec (motive := fun _ => MO X25) (fun m a b c d f g h i l n o p r t u w y z A B C D E F G s κ => ldV c true 62 s (fun v0 s => allocC P 53 s (fun v1 s => stA v1 v0 62 s (fun _ s => κ (X25.mk m a b c d f g v1 i l n o p r v0 u w y z A B C D E F G) s)))) x s κ
theorem r57x3ok : RgOk P false o57x3 T25 r57x3 := fun _ _ x _ _ => by cases x; kernel_rfl
def o57x4 : Array Oper := regO (pth [1, 0, 0, 1, 1, 0, 0, 1, 1, 0] c57v)
def r57x4 : RG X25 := fun call yl x s κ => X25.rec (motive := fun _ => MO X25) (fun m a b c d f g h i l n o p r t u w y z A B C D E F G s κ => ptrK c 29 s (fun v0 s => ldV v0 false 1 s (fun v1 s => call 21 [v1] s (fun v2 s => ptrK h 2 s (fun v3 s => stA v3 g 1 s (fun _ s => ptrK h 29 s (fun v4 s => stA v4 v2 1 s (fun _ s => κ (X25.mk m a b c d f g h i l n o p r t g v0 v1 v2 v3 v4 C D E F G) s)))))))) x s κ
theorem r57x4ok : RgOk P false o57x4 T25 r57x4 := fun _ _ x _ _ => by cases x; kernel_rfl
def o57x5 : Array Oper := regO (pth [1, 0, 0, 1, 1, 0, 0, 1, 1, 1, 0] c57v)
def r57x5 : RG X25 := fun call yl x s κ => X25.rec (motive := fun _ => MO X25) (fun m a b c d f g h i l n o p r t u w y z A B C D E F G s κ => ldV h true 62 s (fun v0 s => callV a [v0] call yl s (fun v1 s => notC v1 s (fun v2 s => κ (X25.mk m a b c d f g h i l n o p r t u w y z A B a v0 v1 v2 G) s)))) x s κ
theorem r57x5ok : RgOk P false o57x5 T25 r57x5 := fun _ _ x _ _ => by cases x; kernel_rfl
def o57x6 : Array Oper := regO (pth [1, 0, 0, 1, 1, 1] c57v)
def r57x6 : RG X25 := fun call yl x s κ => X25.rec (motive := fun _ => MO X25) (fun m a b c d f g h i l n o p r t u w y z A B C D E F G s κ => binC n (.i .i64 1) 3 .add P s (fun v0 s => κ (X25.mk m a b c d f g h i l v0 o p r t u w y z A B C D E F v0) s)) x s κ
theorem r57x6ok : RgOk P false o57x6 T25 r57x6 := fun _ _ x _ _ => by cases x; kernel_rfl
def S57 : SF X25 := (seqS (regS P t1.fq r57x0) (blkS 0 (loopS (seqS (regS P t1.fq r57x1) (seqS (condS (fun x => X25.rec (motive := fun _ => FV) (fun _ _ _ _ _ _ _ _ _ _ _ z _ _ _ _ _ _ _ _ _ _ _ _ _ _ => z) x) skipS (exitS 0)) (seqS (blkS 1 (seqS (regS P t1.fq r57x2) (seqS (regS P t1.fq r57x3) (seqS (regS P t1.fq r57x4) (seqS (regS P t1.fq r57x5) (condS (fun x => X25.rec (motive := fun _ => FV) (fun _ _ _ _ _ _ _ _ _ _ _ _ _ _ _ _ _ _ _ _ _ _ _ _ z _ => z) x) retS skipS)))))) (regS P t1.fq r57x6)))))))
theorem S57ok : Sh P t1.fq T25 c57v S57 := by
  have e : c57v = (.seq (.region 0 o57x0 false) (.block 0 (.loop (.seq (.region 1 o57x1 false) (.seq (.cond (.tmp 10) .skip (.exit 0)) (.seq (.block 1 (.seq (.region 2 o57x2 false) (.seq (.region 3 o57x3 false) (.seq (.region 4 o57x4 false) (.seq (.region 5 o57x5 false) (.cond (.tmp 23) .ret .skip)))))) (.region 6 o57x6 false))))))) := by kernel_rfl
  rw [e]
  exact (sh_seq (sh_reg r57x0ok) (sh_blk 0 (sh_loop (sh_seq (sh_reg r57x1ok) (sh_seq (sh_cond (fun x => by cases x; rfl) sh_skip (sh_exit 0)) (sh_seq (sh_blk 1 (sh_seq (sh_reg r57x2ok) (sh_seq (sh_reg r57x3ok) (sh_seq (sh_reg r57x4ok) (sh_seq (sh_reg r57x5ok) (sh_cond (fun x => by cases x; rfl) sh_ret sh_skip)))))) (sh_reg r57x6ok)))))))
def A57 : List FV → Option X25 := fun l => match l with
  | [a, b, c] => some (X25.mk [] a b c .e .e .e .e .e .e .e .e .e .e .e .e .e .e .e .e .e .e .e .e .e .e)
  | _ => none
def L57 : LQ := shal P T25 S57 [] 4000 A57
def E57 : LA := evCall P t1.fa 4000 57
theorem G57 : Good P 57 L57 E57 := good_shal all1 (by kernel_rfl) (show FT P 57 = some (c57v, 25, []) by kernel_rfl) S57ok (fun l x h => by
    unfold A57 at h
    split at h
    · cases h; exact ⟨by kernel_rfl, by kernel_rfl⟩
    · cases h) 4000
def c58v : Code := bodyOf P 58
def o58x0 : Array Oper := regO (pth [0] c58v)
def r58x0 : RG X9 := fun call yl x s κ => X9.rec (motive := fun _ => MO X9) (fun m a b c d f g h i l s κ => κ (X9.mk m a b c d (.b false) g h i l) s) x s κ
theorem r58x0ok : RgOk P false o58x0 T9 r58x0 := fun _ _ x _ _ => by cases x; kernel_rfl
def o58x1 : Array Oper := regO (pth [1, 0] c58v)
def r58x1 : RG X9 := fun call yl x s κ => X9.rec (motive := fun _ => MO X9) (fun m a b c d f g h i l s κ => call 32 [a, b] s (fun v0 s => binC v0 (.i .i64 0) 3 .geq P s (fun v1 s => κ (X9.mk m a b c d v1 a b v0 v1) s))) x s κ
theorem r58x1ok : RgOk P false o58x1 T9 r58x1 := fun _ _ x _ _ => by cases x; kernel_rfl
def S58 : SF X9 := (seqS (regS P t1.fq r58x0) (seqS (regS P t1.fq r58x1) retS))
theorem S58ok : Sh P t1.fq T9 c58v S58 := by
  have e : c58v = (.seq (.region 0 o58x0 false) (.seq (.region 1 o58x1 false) .ret)) := by kernel_rfl
  rw [e]
  exact (sh_seq (sh_reg r58x0ok) (sh_seq (sh_reg r58x1ok) sh_ret))
def A58 : List FV → Option X9 := fun l => match l with
  | [a, b] => some (X9.mk [] a b .e .e .e .e .e .e .e)
  | _ => none
def L58 : LQ := shal P T9 S58 [.tmp 4] 4000 A58
def E58 : LA := evCall P t1.fa 4000 58
theorem G58 : Good P 58 L58 E58 := good_shal all1 (by kernel_rfl) (show FT P 58 = some (c58v, 9, [.tmp 4]) by kernel_rfl) S58ok (fun l x h => by
    unfold A58 at h
    split at h
    · cases h; exact ⟨by kernel_rfl, by kernel_rfl⟩
    · cases h) 4000
inductive X37 where
  | mk (m : List Nat) (a b c d f g h i l n o p r t u w y z A B C D E F G H I J K L M N O Q R S T : FV)
def T37 (x : X37) : FF := X37.rec (motive := fun _ => FF) (fun m a b c d f g h i l n o p r t u w y z A B C D E F G H I J K L M N O Q R S T => ⟨(.n a (.n b (.n g (.n D .e .e .e .e) .e .e .e) (.n n (.n H .e .e .e .e) .e .e .e) (.n t (.n L .e .e .e .e) .e .e .e) (.n z (.n Q .e .e .e .e) .e .e .e)) (.n c (.n h (.n E .e .e .e .e) .e .e .e) (.n o (.n I .e .e .e .e) .e .e .e) (.n u (.n M .e .e .e .e) .e .e .e) (.n A (.n R .e .e .e .e) .e .e .e)) (.n d (.n i (.n F .e .e .e .e) .e .e .e) (.n p (.n J .e .e .e .e) .e .e .e) (.n w (.n N .e .e .e .e) .e .e .e) (.n B (.n S .e .e .e .e) .e .e .e)) (.n f (.n l (.n G .e .e .e .e) .e .e .e) (.n r (.n K .e .e .e .e) .e .e .e) (.n y (.n O .e .e .e .e) .e .e .e) (.n C (.n T .e .e .e .e) .e .e .e))), 37, m⟩) x
def c64v : Code := bodyOf P 64
def o64x0 : Array Oper := regO (pth [0] c64v)
def r64x0 : RG X37 := fun call yl x s κ => X37.rec (motive := fun _ => MO X37) (fun m a b c d f g h i l n o p r t u w y z A B C D E F G H I J K L M N O Q R S T s κ => bxV a 75 s (fun v0 s => bxV b 53 s (fun v1 s => κ (X37.mk m a b v0 v1 (.b false) g h i l n o p r t u w y z A B C D E F G H I J K L M N O Q R S T) s))) x s κ
theorem r64x0ok : RgOk P false o64x0 T37 r64x0 := fun _ _ x _ _ => by cases x; kernel_rfl
def o64x1 : Array Oper := regO (pth [1, 0] c64v)
def r64x1 : RG X37 := fun call yl x s κ => X37.rec (motive := fun _ => MO X37) (fun m a b c d f g h i l n o p r t u w y z A B C D E F G H I J K L M N O Q R S T s κ => ptrK d 0 s (fun v0 s => ldV v0 false 1 s (fun v1 s => binC v1 (.i .i64 8) 3 .eql P s (fun v2 s => bnk (fun κ1 => wantC v2 false (ptrK d 0 s (κ1)) (κ1 .e s)) (fun v3 s => bnk (fun κ1 => wantC v2 false (ldV v3 false 1 s (κ1)) (κ1 .e s)) (fun v4 s => bnk (fun κ1 => wantC v2 false (binC v4 (.i .i64 9) 3 .eql P s (κ1)) (κ1 .e s)) (fun v5 s => bnk (fun κ0 => condB v2 (κ0 (.b true) s) (κ0 v5 s)) (fun v6 s => κ (X37.mk m a b c d f v6 v0 v1 v2 v2 v3 v4 v5 v6 u w y z A B C D E F G H I J K L M N O Q R S T) s)))))))) x s κ
theorem r64x1ok : RgOk P false o64x1 T37 r64x1 := fun _ _ x _ _ => by cases x; kernel_rfl
def o64x2 : Array Oper := regO (pth [1, 1, 0] c64v)
def r64x2 : RG X37 := fun call yl x s κ => X37.rec (motive := fun _ => MO X37) (fun m a b c d f g h i l n o p r t u w y z A B C D E F G H I J K L M N O Q R S T s κ => ptrK d 3 s (fun v0 s => ldV v0 false 1 s (fun v1 s => ptrK c 0 s (fun v2 s => ldV v2 false 1 s (fun v3 s => binC v1 v3 3 .eql P s (fun v4 s => bnk (fun κ1 => wantC v4 true (ptrK d 29 s (κ1)) (κ1 .e s)) (fun v5 s => bnk (fun κ1 => wantC v4 true (ldV v5 false 1 s (κ1)) (κ1 .e s)) (fun v6 s => bnk (fun κ1 => wantC v4 true (ptrK c 3 s (κ1)) (κ1 .e s)) (fun v7 s => bnk (fun κ1 => wantC v4 true (ldV v7 false 1 s (κ1)) (κ1 .e s)) (fun v8 s => bnk (fun κ1 => wantC v4 true (call 95 [v6, v8] s (κ1)) (κ1 .e s)) (fun v9 s => bnk (fun κ0 => condB v4 (κ0 v9 s) (κ0 (.b false) s)) (fun v10 s => bnk (fun κ1 => wantC v10 true (κ1 g s) (κ1 .e s)) (fun v11 s => bnk (fun κ1 => wantC v10 true (notC v11 s (κ1)) (κ1 .e s)) (fun v12 s => bnk (fun κ1 => wantC v10 true (κ1 v12 s) (κ1 .e s)) (fun v13 s => bnk (fun κ1 => wantC v13 false (ptrK d 24 s (κ1)) (κ1 .e s)) (fun v14 s => bnk (fun κ1 => wantC v13 false (ldV v14 false 1 s (κ1)) (κ1 .e s)) (fun v15 s => bnk (fun κ1 => wantC v13 false (ptrK c 2 s (κ1)) (κ1 .e s)) (fun v16 s => bnk (fun κ1 => wantC v13 false (ldV v16 false 1 s (κ1)) (κ1 .e s)) (fun v17 s => bnk (fun κ1 => wantC v13 false (binC v15 v17 3 .eql P s (κ1)) (κ1 .e s)) (fun v18 s => bnk (fun κ1 => wantC v10 true (bnk (fun κ0 => condB v13 (κ0 (.b true) s) (κ0 v18 s)) (κ1)) (κ1 .e s)) (fun v19 s => bnk (fun κ0 => condB v10 (κ0 v19 s) (κ0 (.b false) s)) (fun v20 s => κ (X37.mk m a b c d v20 g h i l n o p r t v0 v1 v2 v3 v4 v4 v5 v6 v7 v8 v9 v10 v10 v11 v12 v13 v14 v15 v16 v17 v18 v19 v20) s)))))))))))))))))))))) x s κ
theorem r64x2ok : RgOk P false o64x2 T37 r64x2 := fun _ _ x _ _ => by cases x; kernel_rfl
def S64 : SF X37 := (seqS (regS P t1.fq r64x0) (seqS (regS P t1.fq r64x1) (seqS (regS P t1.fq r64x2) retS)))
theorem S64ok : Sh P t1.fq T37 c64v S64 := by
  have e : c64v = (.seq (.region 0 o64x0 false) (.seq (.region 1 o64x1 false) (.seq (.region 2 o64x2 false) .ret))) := by kernel_rfl
  rw [e]
  exact (sh_seq (sh_reg r64x0ok) (sh_seq (sh_reg r64x1ok) (sh_seq (sh_reg r64x2ok) sh_ret)))
def A64 : List FV → Option X37 := fun l => match l with
  | [a, b] => some (X37.mk [] a b .e .e .e .e .e .e .e .e .e .e .e .e .e .e .e .e .e .e .e .e .e .e .e .e .e .e .e .e .e .e .e .e .e .e .e)
  | _ => none
def L64 : LQ := shal P T37 S64 [.tmp 4] 4000 A64
def E64 : LA := evCall P t1.fa 4000 64
theorem G64 : Good P 64 L64 E64 := good_shal all1 (by kernel_rfl) (show FT P 64 = some (c64v, 37, [.tmp 4]) by kernel_rfl) S64ok (fun l x h => by
    unfold A64 at h
    split at h
    · cases h; exact ⟨by kernel_rfl, by kernel_rfl⟩
    · cases h) 4000
inductive X12 where
  | mk (m : List Nat) (a b c d f g h i l n o p : FV)
def T12 (x : X12) : FF := X12.rec (motive := fun _ => FF) (fun m a b c d f g h i l n o p => ⟨(.n a (.n b (.n g .e .e .e .e) (.n n .e .e .e .e) .e .e) (.n c (.n h .e .e .e .e) (.n o .e .e .e .e) .e .e) (.n d (.n i .e .e .e .e) (.n p .e .e .e .e) .e .e) (.n f (.n l .e .e .e .e) .e .e .e)), 12, m⟩) x
def c71v : Code := bodyOf P 71
def o71x0 : Array Oper := regO (pth [0] c71v)
def r71x0 : RG X12 := fun call yl x s κ => X12.rec (motive := fun _ => MO X12) (fun m a b c d f g h i l n o p s κ => bxV a 51 s (fun v0 s => bxV b 59 s (fun v1 s => allocC P 51 s (fun v2 s => κ (X12.mk m a b v0 v1 v2 g h i l n o p) s)))) x s κ
theorem r71x0ok : RgOk P false o71x0 T12 r71x0 := fun _ _ x _ _ => by cases x; kernel_rfl
def o71x1 : Array Oper := regO (pth [1, 0] c71v)
def r71x1 : RG X12 := fun call yl x s κ => X12.rec (motive := fun _ => MO X12) (fun m a b c d f g h i l n o p s κ => sandS (fun s κ1 => ldV c true 32 s (κ1)) s (fun qv0 v1 s => sandS (fun s κ1 => ldV d true 36 s (κ1)) s (fun qv2 v3 s => sandS (fun s κ1 => call 97 [v3] s (κ1)) s (fun qv4 v5 s => sandS (fun s κ1 => ptrK d 3 s (κ1)) s (fun qv6 v7 s => sandS (fun s κ1 => ldV v7 false 1 s (κ1)) s (fun qv8 v9 s => sandS (fun s κ1 => appendC P 57 57 v5 v9 s (κ1)) s (fun qv10 v11 s => sandS (fun s κ1 => call 96 [v1, v11] s (κ1)) s (fun qv12 v13 s => sandS (fun s κ1 => stA f v13 32 s (κ1)) s (fun qv14 v15 s => V.iff (dynA [] [qv0, qv2, qv4, qv6, qv8, qv10, qv12, qv14] [[], [true], [true, false], [true, true, true], [true, true, true, false], [true, false, false, false, false], [false, false, false, false, false, false], [false, false, false, false, false, false, false]]) (κ (X12.mk m a b c d f v1 v3 v5 v7 v9 v11 v13) s)))))))))) x s κ
theorem r71x1ok : RgOk P true o71x1 T12 r71x1 := fun _ _ x _ _ => by cases x; kernel_rfl
def S71 : SF X12 := (seqS (regS P t1.fq r71x0) (seqS (regS P t1.fq r71x1) retS))
theorem S71ok : Sh P t1.fq T12 c71v S71 := by
  have e : c71v = (.seq (.region 0 o71x0 false) (.seq (.region 1 o71x1 true) .ret)) := by kernel_rfl
  rw [e]
  exact (sh_seq (sh_reg r71x0ok) (sh_seq (sh_reg r71x1ok) sh_ret))
def A71 : List FV → Option X12 := fun l => match l with
  | [a, b] => some (X12.mk [] a b .e .e .e .e .e .e .e .e .e .e)
  | _ => none
def L71 : LQ := shal P T12 S71 [.cell 4 51] 4000 A71
def E71 : LA := evCall P t1.fa 4000 71
theorem G71 : Good P 71 L71 E71 := good_shal all1 (by kernel_rfl) (show FT P 71 = some (c71v, 12, [.cell 4 51]) by kernel_rfl) S71ok (fun l x h => by
    unfold A71 at h
    split at h
    · cases h; exact ⟨by kernel_rfl, by kernel_rfl⟩
    · cases h) 4000
def c90v : Code := bodyOf P 90
def o90x0 : Array Oper := regO (pth [0] c90v)
def r90x0 : RG X30 := fun call yl x s κ => X30.rec (motive := fun _ => MO X30) (fun m a b c d f g h i l n o p r t u w y z A B C D E F G H I J K L s κ => nilC a s (fun v0 s => ptrK v0 0 s (fun v1 s => ldV v1 false 1 s (fun v2 s => nilC v2 s (fun v3 s => ptrK v3 29 s (fun v4 s => ldV v4 false 1 s (fun v5 s => lenC v5 P 23 s (fun v6 s => call 86 [a, v6, (.i .i64 4)] s (fun v7 s => κ (X30.mk m a b c d a a v0 v1 v2 v3 v4 v5 v6 v7 u w y z A B C D E F G H I J K L) s))))))))) x s κ
theorem r90x0ok : RgOk P false o90x0 T30 r90x0 := fun _ _ x _ _ => by cases x; kernel_rfl
def o90x1 : Array Oper := regO (pth [1, 0] c90v)
def r90x1 : RG X30 := fun call yl x s κ => X30.rec (motive := fun _ => MO X30) (fun m a b c d f g h i l n o p r t u w y z A B C D E F G H I J K L s κ => nilC a s (fun v0 s => ptrK v0 0 s (fun v1 s => ldV v1 false 1 s (fun v2 s => nilC v2 s (fun v3 s => ptrK v3 29 s (fun v4 s => ldV v4 false 1 s (fun v5 s => lenC v5 P 23 s (fun v6 s => κ (X30.mk m a b c d f g h i l n o p r t a v0 v1 v2 v3 v4 v5 v6 (.i .i64 0) F G H I J K L) s)))))))) x s κ
theorem r90x1ok : RgOk P false o90x1 T30 r90x1 := fun _ _ x _ _ => by cases x; kernel_rfl
def o90x2 : Array Oper := regO (pth [1, 1, 0, 0, 0] c90v)
def r90x2 : RG X30 := fun call yl x s κ => X30.rec (motive := fun _ => MO X30) (fun m a b c d f g h i l n o p r t u w y z A B C D E F G H I J K L s κ => binC E D 3 .lss P s (fun v0 s => κ (X30.mk m a b c d f g h i l n o p r t u w y z A B C D E v0 G H I J K L) s)) x s κ
theorem r90x2ok : RgOk P false o90x2 T30 r90x2 := fun _ _ x _ _ => by cases x; kernel_rfl
def o90x3 : Array Oper := regO (pth [1, 1, 0, 0, 1, 1, 0, 0, 0] c90v)
def r90x3 : RG X30 := fun call yl x s κ => X30.rec (motive := fun _ => MO X30) (fun m a b c d f g h i l n o p r t u w y z A B C D E F G H I J K L s κ => natK E fun j => iaS C j 1 s (fun v0 s => ldV v0 false 1 s (fun v1 s => κ (X30.mk m a b c v1 f g h i l n o p r t u w y z A B C D E F v0 v1 I J K L) s))) x s κ
theorem r90x3ok : RgOk P false o90x3 T30 r90x3 := fun _ _ x _ _ => by cases x; kernel_rfl
def o90x4 : Array Oper := regO (pth [1, 1, 0, 0, 1, 1, 0, 0, 1] c90v)
def r90x4 : RG X30 := fun call yl x s κ => X30.rec (motive := fun _ => MO X30) (fun m a b c d f g h i l n o p r t u w y z A B C D E F G H I J K L s κ => call 86 [a, d, (.i .i64 1)] s (fun v0 s => κ (X30.mk m a b c d f g h i l n o p r t u w y z A B C D E F G H a d v0 L) s)) x s κ
theorem r90x4ok : RgOk P false o90x4 T30 r90x4 := fun _ _ x _ _ => by cases x; kernel_rfl
def o90x5 : Array Oper := regO (pth [1, 1, 0, 0, 1, 1, 1] c90v)
def r90x5 : RG X30 := fun call yl x s κ => X30.rec (motive := fun _ => MO X30) (fun m a b c d f g h i l n o p r t u w y z A B C D E F G H I J K L s κ => binC E (.i .i64 1) 3 .add P s (fun v0 s => κ (X30.mk m a b c d f g h i l n o p r t u w y z A B C D v0 F G H I J K v0) s)) x s κ
theorem r90x5ok : RgOk P false o90x5 T30 r90x5 := fun _ _ x _ _ => by cases x; kernel_rfl
def S90 : SF X30 := (seqS (regS P t1.fq r90x0) (seqS (regS P t1.fq r90x1) (blkS 0 (loopS (seqS (regS P t1.fq r90x2) (seqS (condS (fun x => X30.rec (motive := fun _ => FV) (fun _ _ _ _ _ _ _ _ _ _ _ _ _ _ _ _ _ _ _ _ _ _ _ _ z _ _ _ _ _ _ => z) x) skipS (exitS 0)) (seqS (blkS 1 (seqS (regS P t1.fq r90x3) (regS P t1.fq r90x4))) (regS P t1.fq r90x5))))))))
theorem S90ok : Sh P t1.fq T30 c90v S90 := by
  have e : c90v = (.seq (.region 0 o90x0 false) (.seq (.region 1 o90x1 false) (.block 0 (.loop (.seq (.region 2 o90x2 false) (.seq (.cond (.tmp 23) .skip (.exit 0)) (.seq (.block 1 (.seq (.region 3 o90x3 false) (.region 4 o90x4 false))) (.region 5 o90x5 false)))))))) := by kernel_rfl
  rw [e]
  exact (sh_seq (sh_reg r90x0ok) (sh_seq (sh_reg r90x1ok) (sh_blk 0 (sh_loop (sh_seq (sh_reg r90x2ok) (sh_seq (sh_cond (fun x => by cases x; rfl) sh_skip (sh_exit 0)) (sh_seq (sh_blk 1 (sh_seq (sh_reg r90x3ok) (sh_reg r90x4ok))) (sh_reg r90x5ok))))))))
def A90 : List FV → Option X30 := fun l => match l with
  | [a] => some (X30.mk [] a .e .e .e .e .e .e .e .e .e .e .e .e .e .e .e .e .e .e .e .e .e .e .e .e .e .e .e .e .e)
  | _ => none
def L90 : LQ := shal P T30 S90 [] 4000 A90
def E90 : LA := evCall P t1.fa 4000 90
theorem G90 : Good P 90 L90 E90 := good_shal all1 (by kernel_rfl) (show FT P 90 = some (c90v, 30, []) by kernel_rfl) S90ok (fun l x h => by
    unfold A90 at h
    split at h
    · cases h; exact ⟨by kernel_rfl, by kernel_rfl⟩
    · cases h) 4000
inductive X34 where
  | mk (m : List Nat) (a b c d f g h i l n o p r t u w y z A B C D E F G H I J K L M N O Q : FV)
def T34 (x : X34) : FF := X34.rec (motive := fun _ => FF) (fun m a b c d f g h i l n o p r t u w y z A B C D E F G H I J K L M N O Q => ⟨(.n a (.n b (.n g (.n D .e .e .e .e) .e .e .e) (.n n (.n H .e .e .e .e) .e .e .e) (.n t (.n L .e .e .e .e) .e .e .e) (.n z (.n Q .e .e .e .e) .e .e .e)) (.n c (.n h (.n E .e .e .e .e) .e .e .e) (.n o (.n I .e .e .e .e) .e .e .e) (.n u (.n M .e .e .e .e) .e .e .e) (.n A .e .e .e .e)) (.n d (.n i (.n F .e .e .e .e) .e .e .e) (.n p (.n J .e .e .e .e) .e .e .e) (.n w (.n N .e .e .e .e) .e .e .e) (.n B .e .e .e .e)) (.n f (.n l (.n G .e .e .e .e) .e .e .e) (.n r (.n K .e .e .e .e) .e .e .e) (.n y (.n O .e .e .e .e) .e .e .e) (.n C .e .e .e .e))), 34, m⟩) x
def c93v : Code := bodyOf P 93
def o93x0 : Array Oper := regO (pth [0] c93v)
def r93x0 : RG X34 := fun call yl x s κ => X34.rec (motive := fun _ => MO X34) (fun m a b c d f g h i l n o p r t u w y z A B C D E F G H I J K L M N O Q s κ => bxV a 59 s (fun v0 s => κ (X34.mk m a v0 (.b false) d f g h i l n o p r t u w y z A B C D E F G H I J K L M N O Q) s)) x s κ
theorem r93x0ok : RgOk P false o93x0 T34 r93x0 := fun _ _ x _ _ => by cases x; kernel_rfl
def o93x1 : Array Oper := regO (pth [1, 0] c93v)
def r93x1 : RG X34 := fun call yl x s κ => X34.rec (motive := fun _ => MO X34) (fun m a b c d f g h i l n o p r t u w y z A B C D E F G H I J K L M N O Q s κ => ptrK b 0 s (fun v0 s => ldV v0 false 1 s (fun v1 s => call 116 [v1] s (fun v2 s => bnk (fun κ1 => wantC v2 true (ptrK b 1 s (κ1)) (κ1 .e s)) (fun v3 s => bnk (fun κ1 => wantC v2 true (ldV v3 false 1 s (κ1)) (κ1 .e s)) (fun v4 s => bnk (fun κ1 => wantC v2 true (call 116 [v4] s (κ1)) (κ1 .e s)) (fun v5 s => bnk (fun κ0 => condB v2 (κ0 v5 s) (κ0 (.b false) s)) (fun v6 s => bnk (fun κ1 => wantC v6 true (ptrK b 0 s (κ1)) (κ1 .e s)) (fun v7 s => bnk (fun κ1 => wantC v6 true (ldV v7 false 1 s (κ1)) (κ1 .e s)) (fun v8 s => bnk (fun κ1 => wantC v6 true (ptrK b 1 s (κ1)) (κ1 .e s)) (fun v9 s => bnk (fun κ1 => wantC v6 true (ldV v9 false 1 s (κ1)) (κ1 .e s)) (fun v10 s => bnk (fun κ1 => wantC v6 true (binC v8 v10 3 .neq P s (κ1)) (κ1 .e s)) (fun v11 s => bnk (fun κ0 => condB v6 (κ0 v11 s) (κ0 (.b false) s)) (fun v12 s => bnk (fun κ1 => wantC v12 true (ptrK b 2 s (κ1)) (κ1 .e s)) (fun v13 s => bnk (fun κ1 => wantC v12 true (ldV v13 false 1 s (κ1)) (κ1 .e s)) (fun v14 s => bnk (fun κ1 => wantC v12 true (binC (.i .i64 1) v14 3 .leq P s (κ1)) (κ1 .e s)) (fun v15 s => bnk (fun κ0 => condB v12 (κ0 v15 s) (κ0 (.b false) s)) (fun v16 s => bnk (fun κ1 => wantC v16 true (ptrK b 2 s (κ1)) (κ1 .e s)) (fun v17 s => bnk (fun κ1 => wantC v16 true (ldV v17 false 1 s (κ1)) (κ1 .e s)) (fun v18 s => bnk (fun κ1 => wantC v16 true (binC v18 (.i .i64 1099511627776) 3 .leq P s (κ1)) (κ1 .e s)) (fun v19 s => bnk (fun κ0 => condB v16 (κ0 v19 s) (κ0 (.b false) s)) (fun v20 s => bnk (fun κ1 => wantC v20 true (ptrK b 3 s (κ1)) (κ1 .e s)) (fun v21 s => bnk (fun κ1 => wantC v20 true (ldV v21 false 1 s (κ1)) (κ1 .e s)) (fun v22 s => bnk (fun κ1 => wantC v20 true (lenC v22 P 57 s (κ1)) (κ1 .e s)) (fun v23 s => bnk (fun κ1 => wantC v20 true (binC v23 (.i .i64 1048576) 3 .leq P s (κ1)) (κ1 .e s)) (fun v24 s => bnk (fun κ0 => condB v20 (κ0 v24 s) (κ0 (.b false) s)) (fun v25 s => κ (X34.mk m a b v25 v0 v1 v2 v2 v3 v4 v5 v6 v6 v7 v8 v9 v10 v11 v12 v12 v13 v14 v15 v16 v16 v17 v18 v19 v20 v20 v21 v22 v23 v24 v25) s))))))))))))))))))))))))))) x s κ
theorem r93x1ok : RgOk P false o93x1 T34 r93x1 := fun _ _ x _ _ => by cases x; kernel_rfl
def S93 : SF X34 := (seqS (regS P t1.fq r93x0) (seqS (regS P t1.fq r93x1) retS))
theorem S93ok : Sh P t1.fq T34 c93v S93 := by
  have e : c93v = (.seq (.region 0 o93x0 false) (.seq (.region 1 o93x1 false) .ret)) := by kernel_rfl
  rw [e]
  exact (sh_seq (sh_reg r93x0ok) (sh_seq (sh_reg r93x1ok) sh_ret))
def A93 : List FV → Option X34 := fun l => match l with
  | [a] => some (X34.mk [] a .e .e .e .e .e .e .e .e .e .e .e .e .e .e .e .e .e .e .e .e .e .e .e .e .e .e .e .e .e .e .e .e .e)
  | _ => none
def L93 : LQ := shal P T34 S93 [.tmp 2] 4000 A93
def E93 : LA := evCall P t1.fa 4000 93
theorem G93 : Good P 93 L93 E93 := good_shal all1 (by kernel_rfl) (show FT P 93 = some (c93v, 34, [.tmp 2]) by kernel_rfl) S93ok (fun l x h => by
    unfold A93 at h
    split at h
    · cases h; exact ⟨by kernel_rfl, by kernel_rfl⟩
    · cases h) 4000
inductive X16 where
  | mk (m : List Nat) (a b c d f g h i l n o p r t u w : FV)
def T16 (x : X16) : FF := X16.rec (motive := fun _ => FF) (fun m a b c d f g h i l n o p r t u w => ⟨(.n a (.n b (.n g .e .e .e .e) (.n n .e .e .e .e) (.n t .e .e .e .e) .e) (.n c (.n h .e .e .e .e) (.n o .e .e .e .e) (.n u .e .e .e .e) .e) (.n d (.n i .e .e .e .e) (.n p .e .e .e .e) (.n w .e .e .e .e) .e) (.n f (.n l .e .e .e .e) (.n r .e .e .e .e) .e .e)), 16, m⟩) x
def c117v : Code := bodyOf P 117
def o117x0 : Array Oper := regO (pth [0] c117v)
def r117x0 : RG X16 := fun call yl x s κ => X16.rec (motive := fun _ => MO X16) (fun m a b c d f g h i l n o p r t u w s κ => bxV b 57 s (fun v0 s => κ (X16.mk m a b c v0 (.o (.p none)) (.o .nf) h i l n o p r t u w) s)) x s κ
theorem r117x0ok : RgOk P false o117x0 T16 r117x0 := fun _ _ x _ _ => by cases x; kernel_rfl
def o117x1 : Array Oper := regO (pth [1, 0] c117v)
def r117x1 : RG X16 := fun call yl x s κ => X16.rec (motive := fun _ => MO X16) (fun m a b c d f g h i l n o p r t u w s κ => buildC P 219 [(0, a)] s (fun v0 s => bxV v0 219 s (fun v1 s => allocC P 194 s (fun v2 s => stA v2 v1 1 s (fun _ s => κ (X16.mk m a b c d f g v2 a v0 v1 o p r t u w) s))))) x s κ
theorem r117x1ok : RgOk P false o117x1 T16 r117x1 := fun _ _ x _ _ => by cases x; kernel_rfl
def o117x2 : Array Oper := regO (pth [1, 1, 0] c117v)
def r117x2 : RG X16 := fun call yl x s κ => X16.rec (motive := fun _ => MO X16) (fun m a b c d f g h i l n o p r t u w s κ => ldV h false 1 s (fun v0 s => makeFuncC 141 [] [h, d] s (fun v1 s => nilC v0 s (fun v2 s => ptrK v2 1 s (fun v3 s => stA v3 v1 1 s (fun _ s => κ (X16.mk m a b c d f g h i l n v0 v1 v2 v3 u w) s)))))) x s κ
theorem r117x2ok : RgOk P false o117x2 T16 r117x2 := fun _ _ x _ _ => by cases x; kernel_rfl
def o117x3 : Array Oper := regO (pth [1, 1, 1, 0] c117v)
def r117x3 : RG X16 := fun call yl x s κ => X16.rec (motive := fun _ => MO X16) (fun m a b c d f g h i l n o p r t u w s κ => ldV h false 1 s (fun v0 s => makeFuncC 142 [] [h, d] s (fun v1 s => κ (X16.mk m a b c d v0 v1 h i l n o p r t v0 v1) s))) x s κ
theorem r117x3ok : RgOk P false o117x3 T16 r117x3 := fun _ _ x _ _ => by cases x; kernel_rfl
def S117 : SF X16 := (seqS (regS P t1.fq r117x0) (seqS (regS P t1.fq r117x1) (seqS (regS P t1.fq r117x2) (seqS (regS P t1.fq r117x3) retS))))
theorem S117ok : Sh P t1.fq T16 c117v S117 := by
  have e : c117v = (.seq (.region 0 o117x0 false) (.seq (.region 1 o117x1 false) (.seq (.region 2 o117x2 false) (.seq (.region 3 o117x3 false) .ret)))) := by kernel_rfl
  rw [e]
  exact (sh_seq (sh_reg r117x0ok) (sh_seq (sh_reg r117x1ok) (sh_seq (sh_reg r117x2ok) (sh_seq (sh_reg r117x3ok) sh_ret))))
def A117 : List FV → Option X16 := fun l => match l with
  | [a, b] => some (X16.mk [] a b .e .e .e .e .e .e .e .e .e .e .e .e .e .e)
  | _ => none
def L117 : LQ := shal P T16 S117 [.tmp 4, .tmp 5] 4000 A117
def E117 : LA := evCall P t1.fa 4000 117
theorem G117 : Good P 117 L117 E117 := good_shal all1 (by kernel_rfl) (show FT P 117 = some (c117v, 16, [.tmp 4, .tmp 5]) by kernel_rfl) S117ok (fun l x h => by
    unfold A117 at h
    split at h
    · cases h; exact ⟨by kernel_rfl, by kernel_rfl⟩
    · cases h) 4000
inductive X4 where
  | mk (m : List Nat) (a b c d : FV)
def T4 (x : X4) : FF := X4.rec (motive := fun _ => FF) (fun m a b c d => ⟨(.n a (.n b .e .e .e .e) (.n c .e .e .e .e) (.n d .e .e .e .e) .e), 4, m⟩) x
def c143v : Code := bodyOf P 143
def o143x0 : Array Oper := regO (pth [0] c143v)
def r143x0 : RG X4 := fun call yl x s κ => X4.rec (motive := fun _ => MO X4) (fun m a b c d s κ => bxV a 57 s (fun v0 s => κ (X4.mk m a v0 (.o .nf) d) s)) x s κ
theorem r143x0ok : RgOk P false o143x0 T4 r143x0 := fun _ _ x _ _ => by cases x; kernel_rfl
def o143x1 : Array Oper := regO (pth [1, 0] c143v)
def r143x1 : RG X4 := fun call yl x s κ => X4.rec (motive := fun _ => MO X4) (fun m a b c d s κ => makeFuncC 147 [] [b] s (fun v0 s => κ (X4.mk m a b v0 v0) s)) x s κ
theorem r143x1ok : RgOk P false o143x1 T4 r143x1 := fun _ _ x _ _ => by cases x; kernel_rfl
def S143 : SF X4 := (seqS (regS P t1.fq r143x0) (seqS (regS P t1.fq r143x1) retS))
theorem S143ok : Sh P t1.fq T4 c143v S143 := by
  have e : c143v = (.seq (.region 0 o143x0 false) (.seq (.region 1 o143x1 false) .ret)) := by kernel_rfl
  rw [e]
  exact (sh_seq (sh_reg r143x0ok) (sh_seq (sh_reg r143x1ok) sh_ret))
def A143 : List FV → Option X4 := fun l => match l with
  | [a] => some (X4.mk [] a .e .e .e)
  | _ => none
def L143 : LQ := shal P T4 S143 [.tmp 2] 4000 A143
def E143 : LA := evCall P t1.fa 4000 143
theorem G143 : Good P 143 L143 E143 := good_shal all1 (by kernel_rfl) (show FT P 143 = some (c143v, 4, [.tmp 2]) by kernel_rfl) S143ok (fun l x h => by
    unfold A143 at h
    split at h
    · cases h; exact ⟨by kernel_rfl, by kernel_rfl⟩
    · cases h) 4000
def t2 : LT := (.n 73 L73 E73 (.n 56 L56 E56 (.n 39 L39 E39 (.n 27 L27 E27 (.n 22 L22 E22 (.n 21 L21 E21 .e .e) .e) (.n 33 L33 E33 (.n 32 L32 E32 .e .e) .e)) (.n 43 L43 E43 (.n 42 L42 E42 (.n 40 L40 E40 .e .e) .e) (.n 46 L46 E46 .e .e))) (.n 66 L66 E66 (.n 60 L60 E60 (.n 58 L58 E58 (.n 57 L57 E57 .e .e) .e) (.n 64 L64 E64 .e .e)) (.n 71 L71 E71 (.n 68 L68 E68 (.n 67 L67 E67 .e .e) .e) (.n 72 L72 E72 .e .e)))) (.n 116 L116 E116 (.n 93 L93 E93 (.n 90 L90 E90 (.n 86 L86 E86 (.n 76 L76 E76 .e .e) .e) (.n 91 L91 E91 .e .e)) (.n 97 L97 E97 (.n 96 L96 E96 (.n 95 L95 E95 .e .e) .e) (.n 115 L115 E115 .e .e))) (.n 138 L138 E138 (.n 124 L124 E124 (.n 123 L123 E123 (.n 117 L117 E117 .e .e) .e) (.n 125 L125 E125 .e .e)) (.n 143 L143 E143 (.n 142 L142 E142 (.n 141 L141 E141 .e .e) .e) (.n 147 L147 E147 .e .e)))))
theorem all2 : t2.all (Good P) := ⟨G73, ⟨G56, ⟨G39, ⟨G27, ⟨G22, ⟨G21, trivial, trivial⟩, trivial⟩, ⟨G33, ⟨G32, trivial, trivial⟩, trivial⟩⟩, ⟨G43, ⟨G42, ⟨G40, trivial, trivial⟩, trivial⟩, ⟨G46, trivial, trivial⟩⟩⟩, ⟨G66, ⟨G60, ⟨G58, ⟨G57, trivial, trivial⟩, trivial⟩, ⟨G64, trivial, trivial⟩⟩, ⟨G71, ⟨G68, ⟨G67, trivial, trivial⟩, trivial⟩, ⟨G72, trivial, trivial⟩⟩⟩⟩, ⟨G116, ⟨G93, ⟨G90, ⟨G86, ⟨G76, trivial, trivial⟩, trivial⟩, ⟨G91, trivial, trivial⟩⟩, ⟨G97, ⟨G96, ⟨G95, trivial, trivial⟩, trivial⟩, ⟨G115, trivial, trivial⟩⟩⟩, ⟨G138, ⟨G124, ⟨G123, ⟨G117, trivial, trivial⟩, trivial⟩, ⟨G125, trivial, trivial⟩⟩, ⟨G143, ⟨G142, ⟨G141, trivial, trivial⟩, trivial⟩, ⟨G147, trivial, trivial⟩⟩⟩⟩⟩
end
end V
end Go.CE
namespace Go.CE
namespace V
set_option maxRecDepth 100000
noncomputable section
variable [Sym] [SymOk]
inductive X43 where
  | mk (m : List Nat) (a b c d f g h i l n o p r t u w y z A B C D E F G H I J K L M N O Q R S T U W Y Z a1 b1 : FV)
def T43 (x : X43) : FF := X43.rec (motive := fun _ => FF) (fun m a b c d f g h i l n o p r t u w y z A B C D E F G H I J K L M N O Q R S T U W Y Z a1 b1 => ⟨(.n a (.n b (.n g (.n D .e .e .e .e) (.n U .e .e .e .e) .e .e) (.n n (.n H .e .e .e .e) (.n a1 .e .e .e .e) .e .e) (.n t (.n L .e .e .e .e) .e .e .e) (.n z (.n Q .e .e .e .e) .e .e .e)) (.n c (.n h (.n E .e .e .e .e) (.n W .e .e .e .e) .e .e) (.n o (.n I .e .e .e .e) (.n b1 .e .e .e .e) .e .e) (.n u (.n M .e .e .e .e) .e .e .e) (.n A (.n R .e .e .e .e) .e .e .e)) (.n d (.n i (.n F .e .e .e .e) (.n Y .e .e .e .e) .e .e) (.n p (.n J .e .e .e .e) .e .e .e) (.n w (.n N .e .e .e .e) .e .e .e) (.n B (.n S .e .e .e .e) .e .e .e)) (.n f (.n l (.n G .e .e .e .e) (.n Z .e .e .e .e) .e .e) (.n r (.n K .e .e .e .e) .e .e .e) (.n y (.n O .e .e .e .e) .e .e .e) (.n C (.n T .e .e .e .e) .e .e .e))), 43, m⟩) x
def c28v : Code := bodyOf P 28
def o28x0 : Array Oper := regO (pth [0] c28v)
def r28x0 : RG X43 := fun call yl x s κ => X43.rec (motive := fun _ => MO X43) (fun m a b c d f g h i l n o p r t u w y z A B C D E F G H I J K L M N O Q R S T U W Y Z a1 b1 s κ => bxV a 32 s (fun v0 s => allocC P 75 s (fun v1 s => κ (X43.mk m a v0 v1 (.b false) f g h i l n o p r t u w y z A B C D E F G H I J K L M N O Q R S T U W Y Z a1 b1) s))) x s κ
theorem r28x0ok : RgOk P false o28x0 T43 r28x0 := fun _ _ x _ _ => by cases x; kernel_rfl
def o28x1 : Array Oper := regO (pth [1, 0] c28v)
def r28x1 : RG X43 := fun call yl x s κ => X43.rec (motive := fun _ => MO X43) (fun m a b c d f g h i l n o p r t u w y z A B C D E F G H I J K L M N O Q R S T U W Y Z a1 b1 s κ => ptrK b 1 s (fun v0 s => ldV v0 false 1 s (fun v1 s => ptrK b 0 s (fun v2 s => ldV v2 false 1 s (fun v3 s => ptrK b 2 s (fun v4 s => ldV v4 false 1 s (fun v5 s => ptrK b 4 s (fun v6 s => ldV v6 false 1 s (fun v7 s => buildC P 75 [(0, v1), (1, v3), (2, v5), (3, v7)] s (fun v8 s => allocC P 75 s (fun v9 s => stA v9 v8 4 s (fun _ s => κ (X43.mk m a b c d v9 g v0 v1 v2 v3 v4 v5 v6 v7 v8 w y z A B C D E F G H I J K L M N O Q R S T U W Y Z a1 b1) s)))))))))))) x s κ
theorem r28x1ok : RgOk P false o28x1 T43 r28x1 := fun _ _ x _ _ => by cases x; kernel_rfl
def o28x2 : Array Oper := regO (pth [1, 1, 0] c28v)
def r28x2 : RG X43 := fun call yl x s κ => X43.rec (motive := fun _ => MO X43) (fun m a b c d f g h i l n o p r t u w y z A B C D E F G H I J K L M N O Q R S T U W Y Z a1 b1 s κ => ptrK b 3 s (fun v0 s => ldV v0 false 1 s (fun v1 s => binC v1 (.i .i64 1) 3 .eql P s (fun v2 s => bnk (fun κ1 => wantC v2 false (ptrK b 3 s (κ1)) (κ1 .e s)) (fun v3 s => bnk (fun κ1 => wantC v2 false (ldV v3 false 1 s (κ1)) (κ1 .e s)) (fun v4 s => bnk (fun κ1 => wantC v2 false (binC v4 (.i .i64 3) 3 .eql P s (κ1)) (κ1 .e s)) (fun v5 s => bnk (fun κ0 => condB v2 (κ0 (.b true) s) (κ0 v5 s)) (fun v6 s => bnk (fun κ1 => wantC v6 false (ptrK b 3 s (κ1)) (κ1 .e s)) (fun v7 s => bnk (fun κ1 => wantC v6 false (ldV v7 false 1 s (κ1)) (κ1 .e s)) (fun v8 s => bnk (fun κ1 => wantC v6 false (binC v8 (.i .i64 4) 3 .eql P s (κ1)) (κ1 .e s)) (fun v9 s => bnk (fun κ0 => condB v6 (κ0 (.b true) s) (κ0 v9 s)) (fun v10 s => κ (X43.mk m a b c d f v10 h i l n o p r t u v0 v1 v2 v2 v3 v4 v5 v6 v6 v7 v8 v9 v10 K L M N O Q R S T U W Y Z a1 b1) s)))))))))))) x s κ
theorem r28x2ok : RgOk P false o28x2 T43 r28x2 := fun _ _ x _ _ => by cases x; kernel_rfl
def o28x3 : Array Oper := regO (pth [1, 1, 1, 0] c28v)
def r28x3 : RG X43 := fun call yl x s κ => X43.rec (motive := fun _ => MO X43) (fun m a b c d f g h i l n o p r t u w y z A B C D E F G H I J K L M N O Q R S T U W Y Z a1 b1 s κ => sandS (fun s κ1 => ldV f true 4 s (κ1)) s (fun qv0 v1 s => sandS (fun s κ1 => ldV f true 4 s (κ1)) s (fun qv2 v3 s => sandS (fun s κ1 => call 22 [v3] s (κ1)) s (fun qv4 v5 s => (fun qv6 => sandS (fun s κ1 => bnk (fun κ1 => wantC v5 true (κ1 g s) (κ1 .e s)) κ1) s (fun qv7 v8 s => sandS (fun s κ1 => bnk (fun κ0 => condB v5 (κ0 v8 s) (κ0 (.b false) s)) (κ1)) s (fun qv9 v10 s => (fun qv11 => sandS (fun s κ1 => bnk (fun κ1 => wantC v10 true (ptrK b 5 s (κ1)) (κ1 .e s)) κ1) s (fun qv12 v13 s => sandS (fun s κ1 => bnk (fun κ1 => wantC v10 true (ldV v13 false 1 s (κ1)) (κ1 .e s)) κ1) s (fun qv14 v15 s => sandS (fun s κ1 => bnk (fun κ1 => wantC v10 true (lenC v15 P 29 s (κ1)) (κ1 .e s)) κ1) s (fun qv16 v17 s => sandS (fun s κ1 => bnk (fun κ1 => wantC v10 true (ptrK b 4 s (κ1)) (κ1 .e s)) κ1) s (fun qv18 v19 s => sandS (fun s κ1 => bnk (fun κ1 => wantC v10 true (ldV v19 false 1 s (κ1)) (κ1 .e s)) κ1) s (fun qv20 v21 s => sandS (fun s κ1 => bnk (fun κ1 => wantC v10 true (lenC v21 P 23 s (κ1)) (κ1 .e s)) κ1) s (fun qv22 v23 s => sandS (fun s κ1 => bnk (fun κ1 => wantC v10 true (binC v17 v23 3 .eql P s (κ1)) (κ1 .e s)) κ1) s (fun qv24 v25 s => sandS (fun s κ1 => bnk (fun κ0 => condB v10 (κ0 v25 s) (κ0 (.b false) s)) (κ1)) s (fun qv26 v27 s => sandS (fun s κ1 => stA c v1 4 s (κ1)) s (fun qv28 v29 s => (fun qv30 => V.iff (dynA [] [qv0, qv2, qv4, qv6, qv7, qv9, qv11, qv12, qv14, qv16, qv18, qv20, qv22, qv24, qv26, qv28, qv30] [[], [true], [true, false], [true, false, false], [true, false, false, false], [true, false, false, false, false], [true, false, false, false, false, false], [true, false, false, false, false, false, false], [true, false, false, false, false, false, false, false], [true, false, false, false, false, false, false, false, false], [true, false, false, false, false, false, false, true, true, true], [true, false, false, false, false, false, false, true, true, true, false], [true, false, false, false, false, false, false, true, true, true, false, false], [true, false, false, false, false, false, false, false, false, false, false, false, false], [true, false, false, false, false, false, false, false, false, false, false, false, false, false], [false, false, false, false, false, false, false, true, true, true, true, true, true, true, true], [false, false, false, false, false, false, false, false, false, false, false, false, false, false, false, false]]) (κ (X43.mk m a b c v27 f g h i l n o p r t u w y z A B C D E F G H I J v1 v3 v5 v5 v8 v10 v10 v13 v15 v17 v19 v21 v23 v25 v27) s)) (qz s))))))))))) (qz s)))) (qz s))))) x s κ
theorem r28x3ok : RgOk P true o28x3 T43 r28x3 := fun _ _ x _ _ => by cases x; kernel_rfl
def S28 : SF X43 := (seqS (regS P t2.fq r28x0) (seqS (regS P t2.fq r28x1) (seqS (regS P t2.fq r28x2) (seqS (regS P t2.fq r28x3) retS))))
theorem S28ok : Sh P t2.fq T43 c28v S28 := by
  have e : c28v = (.seq (.region 0 o28x0 false) (.seq (.region 1 o28x1 false) (.seq (.region 2 o28x2 false) (.seq (.region 3 o28x3 true) .ret)))) := by kernel_rfl
  rw [e]
  exact (sh_seq (sh_reg r28x0ok) (sh_seq (sh_reg r28x1ok) (sh_seq (sh_reg r28x2ok) (sh_seq (sh_reg r28x3ok) sh_ret))))
def A28 : List FV → Option X43 := fun l => match l with
  | [a] => some (X43.mk [] a .e .e .e .e .e .e .e .e .e .e .e .e .e .e .e .e .e .e .e .e .e .e .e .e .e .e .e .e .e .e .e .e .e .e .e .e .e .e .e .e .e .e)
  | _ => none
def L28 : LQ := shal P T43 S28 [.cell 2 75, .tmp 3] 4000 A28
def E28 : LA := evCall P t2.fa 4000 28
theorem G28 : Good P 28 L28 E28 := good_shal all2 (by kernel_rfl) (show FT P 28 = some (c28v, 43, [.cell 2 75, .tmp 3]) by kernel_rfl) S28ok (fun l x h => by
    unfold A28 at h
    split at h
    · cases h; exact ⟨by kernel_rfl, by kernel_rfl⟩
    · cases h) 4000
def c30v : Code := bodyOf P 30
def o30x0 : Array Oper := regO (pth [0] c30v)
def r30x0 : RG X25 := fun call yl x s κ => X25.rec (motive := fun _ => MO X25) (fun m a b c d f g h i l n o p r t u w y z A B C D E F G s κ => bxV a 75 s (fun v0 s => bxV b 53 s (fun v1 s => κ (X25.mk m a b v0 v1 (.b false) g h i l n o p r t u w y z A B C D E F G) s))) x s κ
theorem r30x0ok : RgOk P false o30x0 T25 r30x0 := fun _ _ x _ _ => by cases x; kernel_rfl
def o30x1 : Array Oper := regO (pth [1, 0] c30v)
def r30x1 : RG X25 := fun call yl x s κ => X25.rec (motive := fun _ => MO X25) (fun m a b c d f g h i l n o p r t u w y z A B C D E F G s κ => ptrK d 0 s (fun v0 s => ldV v0 false 1 s (fun v1 s => binC v1 (.i .i64 9) 3 .eql P s (fun v2 s => bnk (fun κ1 => wantC v2 false (ptrK d 0 s (κ1)) (κ1 .e s)) (fun v3 s => bnk (fun κ1 => wantC v2 false (ldV v3 false 1 s (κ1)) (κ1 .e s)) (fun v4 s => bnk (fun κ1 => wantC v2 false (binC v4 (.i .i64 10) 3 .eql P s (κ1)) (κ1 .e s)) (fun v5 s => bnk (fun κ0 => condB v2 (κ0 (.b true) s) (κ0 v5 s)) (fun v6 s => bnk (fun κ1 => wantC v6 true (ldV c true 4 s (κ1)) (κ1 .e s)) (fun v7 s => bnk (fun κ1 => wantC v6 true (ldV d true 62 s (κ1)) (κ1 .e s)) (fun v8 s => bnk (fun κ1 => wantC v6 true (call 64 [v7, v8] s (κ1)) (κ1 .e s)) (fun v9 s => bnk (fun κ0 => condB v6 (κ0 v9 s) (κ0 (.b false) s)) (fun v10 s => bnk (fun κ1 => wantC v10 true (ptrK c 3 s (κ1)) (κ1 .e s)) (fun v11 s => bnk (fun κ1 => wantC v10 true (ldV v11 false 1 s (κ1)) (κ1 .e s)) (fun v12 s => bnk (fun κ1 => wantC v10 true (ptrK d 1 s (κ1)) (κ1 .e s)) (fun v13 s => bnk (fun κ1 => wantC v10 true (ldV v13 false 1 s (κ1)) (κ1 .e s)) (fun v14 s => bnk (fun κ1 => wantC v10 true (call 58 [v12, v14] s (κ1)) (κ1 .e s)) (fun v15 s => bnk (fun κ0 => condB v10 (κ0 v15 s) (κ0 (.b false) s)) (fun v16 s => κ (X25.mk m a b c d v16 v0 v1 v2 v2 v3 v4 v5 v6 v6 v7 v8 v9 v10 v10 v11 v12 v13 v14 v15 v16) s)))))))))))))))))) x s κ
theorem r30x1ok : RgOk P false o30x1 T25 r30x1 := fun _ _ x _ _ => by cases x; kernel_rfl
def S30 : SF X25 := (seqS (regS P t2.fq r30x0) (seqS (regS P t2.fq r30x1) retS))
theorem S30ok : Sh P t2.fq T25 c30v S30 := by
  have e : c30v = (.seq (.region 0 o30x0 false) (.seq (.region 1 o30x1 false) .ret)) := by kernel_rfl
  rw [e]
  exact (sh_seq (sh_reg r30x0ok) (sh_seq (sh_reg r30x1ok) sh_ret))
def A30 : List FV → Option X25 := fun l => match l with
  | [a, b] => some (X25.mk [] a b .e .e .e .e .e .e .e .e .e .e .e .e .e .e .e .e .e .e .e .e .e .e .e)
  | _ => none
def L30 : LQ := shal P T25 S30 [.tmp 4] 4000 A30
def E30 : LA := evCall P t2.fa 4000 30
theorem G30 : Good P 30 L30 E30 := good_shal all2 (by kernel_rfl) (show FT P 30 = some (c30v, 25, [.tmp 4]) by kernel_rfl) S30ok (fun l x h => by
    unfold A30 at h
    split at h
    · cases h; exact ⟨by kernel_rfl, by kernel_rfl⟩
    · cases h) 4000
def c31v : Code := bodyOf P 31
def o31x0 : Array Oper := regO (pth [0] c31v)
def r31x0 : RG X16 := fun call yl x s κ => X16.rec (motive := fun _ => MO X16) (fun m a b c d f g h i l n o p r t u w s κ => bxV a 32 s (fun v0 s => allocC P 32 s (fun v1 s => κ (X16.mk m a v0 v1 d f g h i l n o p r t u w) s))) x s κ
theorem r31x0ok : RgOk P false o31x0 T16 r31x0 := fun _ _ x _ _ => by cases x; kernel_rfl
def o31x1 : Array Oper := regO (pth [1, 0] c31v)
def r31x1 : RG X16 := fun call yl x s κ => X16.rec (motive := fun _ => MO X16) (fun m a b c d f g h i l n o p r t u w s κ => sandS (fun s κ1 => ptrK b 4 s (κ1)) s (fun qv0 v1 s => sandS (fun s κ1 => ldV v1 false 1 s (κ1)) s (fun qv2 v3 s => sandS (fun s κ1 => call 21 [v3] s (κ1)) s (fun qv4 v5 s => sandS (fun s κ1 => ptrK b 5 s (κ1)) s (fun qv6 v7 s => sandS (fun s κ1 => ldV v7 false 1 s (κ1)) s (fun qv8 v9 s => sandS (fun s κ1 => call 65 [v9] s (κ1)) s (fun qv10 v11 s => sandS (fun s κ1 => ptrK b 6 s (κ1)) s (fun qv12 v13 s => sandS (fun s κ1 => ldV v13 false 1 s (κ1)) s (fun qv14 v15 s => sandS (fun s κ1 => call 33 [v15] s (κ1)) s (fun qv16 v17 s => sandS (fun s κ1 => ptrK b 4 s (κ1)) s (fun qv18 v19 s => sandS (fun s κ1 => stA v19 v5 1 s (κ1)) s (fun qv20 v21 s => sandS (fun s κ1 => ptrK b 5 s (κ1)) s (fun qv22 v23 s => sandS (fun s κ1 => stA v23 v11 1 s (κ1)) s (fun qv24 v25 s => sandS (fun s κ1 => ptrK b 6 s (κ1)) s (fun qv26 v27 s => sandS (fun s κ1 => stA v27 v17 1 s (κ1)) s (fun qv28 v29 s => V.iff (dynA [] [qv0, qv2, qv4, qv6, qv8, qv10, qv12, qv14, qv16, qv18, qv20, qv22, qv24, qv26, qv28] [[], [false], [false, false], [true, true, true], [true, true, true, false], [false, false, false, false, false], [true, true, true, true, true, true], [true, true, true, true, true, true, false], [false, false, false, false, false, false, false, false], [false, false, false, false, false, true, false, false, true], [false, false, false, false, false, false, false, false, false, false], [false, false, false, false, false, false, false, false, false, false, false], [false, false, false, false, false, false, false, false, false, false, false, false], [false, false, false, false, false, false, false, false, false, false, false, false, false], [false, false, false, false, false, false, false, false, false, false, false, false, false, false]]) (κ (X16.mk m a b c v1 v3 v5 v7 v9 v11 v13 v15 v17 v19 v23 v27 w) s))))))))))))))))) x s κ
theorem r31x1ok : RgOk P true o31x1 T16 r31x1 := fun _ _ x _ _ => by cases x; kernel_rfl
def o31x2 : Array Oper := regO (pth [1, 1, 0] c31v)
def r31x2 : RG X16 := fun call yl x s κ => X16.rec (motive := fun _ => MO X16) (fun m a b c d f g h i l n o p r t u w s κ => ldV b true 7 s (fun v0 s => stA c v0 7 s (fun _ s => κ (X16.mk m a b c d f g h i l n o p r t u v0) s))) x s κ
theorem r31x2ok : RgOk P false o31x2 T16 r31x2 := fun _ _ x _ _ => by cases x; kernel_rfl
def S31 : SF X16 := (seqS (regS P t2.fq r31x0) (seqS (regS P t2.fq r31x1) (seqS (regS P t2.fq r31x2) retS)))
theorem S31ok : Sh P t2.fq T16 c31v S31 := by
  have e : c31v = (.seq (.region 0 o31x0 false) (.seq (.region 1 o31x1 true) (.seq (.region 2 o31x2 false) .ret))) := by kernel_rfl
  rw [e]
  exact (sh_seq (sh_reg r31x0ok) (sh_seq (sh_reg r31x1ok) (sh_seq (sh_reg r31x2ok) sh_ret)))
def A31 : List FV → Option X16 := fun l => match l with
  | [a] => some (X16.mk [] a .e .e .e .e .e .e .e .e .e .e .e .e .e .e .e)
  | _ => none
def L31 : LQ := shal P T16 S31 [.cell 2 32] 4000 A31
def E31 : LA := evCall P t2.fa 4000 31
theorem G31 : Good P 31 L31 E31 := good_shal all2 (by kernel_rfl) (show FT P 31 = some (c31v, 16, [.cell 2 32]) by kernel_rfl) S31ok (fun l x h => by
    unfold A31 at h
    split at h
    · cases h; exact ⟨by kernel_rfl, by kernel_rfl⟩
    · cases h) 4000
inductive X32 where
  | mk (m : List Nat) (a b c d f g h i l n o p r t u w y z A B C D E F G H I J K L M N : FV)
def T32 (x : X32) : FF := X32.rec (motive := fun _ => FF) (fun m a b c d f g h i l n o p r t u w y z A B C D E F G H I J K L M N => ⟨(.n a (.n b (.n g (.n D .e .e .e .e) .e .e .e) (.n n (.n H .e .e .e .e) .e .e .e) (.n t (.n L .e .e .e .e) .e .e .e) (.n z .e .e .e .e)) (.n c (.n h (.n E .e .e .e .e) .e .e .e) (.n o (.n I .e .e .e .e) .e .e .e) (.n u (.n M .e .e .e .e) .e .e .e) (.n A .e .e .e .e)) (.n d (.n i (.n F .e .e .e .e) .e .e .e) (.n p (.n J .e .e .e .e) .e .e .e) (.n w (.n N .e .e .e .e) .e .e .e) (.n B .e .e .e .e)) (.n f (.n l (.n G .e .e .e .e) .e .e .e) (.n r (.n K .e .e .e .e) .e .e .e) (.n y .e .e .e .e) (.n C .e .e .e .e))), 32, m⟩) x
def c49v : Code := bodyOf P 49
def o49x0 : Array Oper := regO (pth [0] c49v)
def r49x0 : RG X32 := fun call yl x s κ => X32.rec (motive := fun _ => MO X32) (fun m a b c d f g h i l n o p r t u w y z A B C D E F G H I J K L M N s κ => bxV a 38 s (fun v0 s => allocC P 75 s (fun v1 s => κ (X32.mk m a v0 v1 (.b false) f g h i l n o p r t u w y z A B C D E F G H I J K L M N) s))) x s κ
theorem r49x0ok : RgOk P false o49x0 T32 r49x0 := fun _ _ x _ _ => by cases x; kernel_rfl
def o49x1 : Array Oper := regO (pth [1, 0] c49v)
def r49x1 : RG X32 := fun call yl x s κ => X32.rec (motive := fun _ => MO X32) (fun m a b c d f g h i l n o p r t u w y z A B C D E F G H I J K L M N s κ => ptrK b 1 s (fun v0 s => ldV v0 false 1 s (fun v1 s => ptrK b 2 s (fun v2 s => ldV v2 false 1 s (fun v3 s => ptrK b 3 s (fun v4 s => ldV v4 false 1 s (fun v5 s => ptrK b 5 s (fun v6 s => ldV v6 false 1 s (fun v7 s => buildC P 75 [(0, v1), (1, v3), (2, v5), (3, v7)] s (fun v8 s => allocC P 75 s (fun v9 s => stA v9 v8 4 s (fun _ s => κ (X32.mk m a b c d v9 g v0 v1 v2 v3 v4 v5 v6 v7 v8 w y z A B C D E F G H I J K L M N) s)))))))))))) x s κ
theorem r49x1ok : RgOk P false o49x1 T32 r49x1 := fun _ _ x _ _ => by cases x; kernel_rfl
def o49x2 : Array Oper := regO (pth [1, 1, 0] c49v)
def r49x2 : RG X32 := fun call yl x s κ => X32.rec (motive := fun _ => MO X32) (fun m a b c d f g h i l n o p r t u w y z A B C D E F G H I J K L M N s κ => buildSliceC P 23 5 [(0, (.i .i64 0)), (1, (.i .i64 2)), (2, (.i .i64 3)), (3, (.i .i64 4)), (4, (.i .i64 5))] s (fun v0 s => κ (X32.mk m a b c d f v0 h i l n o p r t u v0 y z A B C D E F G H I J K L M N) s)) x s κ
theorem r49x2ok : RgOk P false o49x2 T32 r49x2 := fun _ _ x _ _ => by cases x; kernel_rfl
def o49x3 : Array Oper := regO (pth [1, 1, 1, 0] c49v)
def r49x3 : RG X32 := fun call yl x s κ => X32.rec (motive := fun _ => MO X32) (fun m a b c d f g h i l n o p r t u w y z A B C D E F G H I J K L M N s κ => sandS (fun s κ1 => ldV f true 4 s (κ1)) s (fun qv0 v1 s => sandS (fun s κ1 => ldV f true 4 s (κ1)) s (fun qv2 v3 s => sandS (fun s κ1 => call 22 [v3] s (κ1)) s (fun qv4 v5 s => (fun qv6 => sandS (fun s κ1 => bnk (fun κ1 => wantC v5 true (κ1 g s) (κ1 .e s)) κ1) s (fun qv7 v8 s => sandS (fun s κ1 => bnk (fun κ1 => wantC v5 true (ptrK b 4 s (κ1)) (κ1 .e s)) κ1) s (fun qv9 v10 s => sandS (fun s κ1 => bnk (fun κ1 => wantC v5 true (ldV v10 false 1 s (κ1)) (κ1 .e s)) κ1) s (fun qv11 v12 s => sandS (fun s κ1 => bnk (fun κ1 => wantC v5 true (call 58 [v8, v12] s (κ1)) (κ1 .e s)) κ1) s (fun qv13 v14 s => sandS (fun s κ1 => bnk (fun κ0 => condB v5 (κ0 v14 s) (κ0 (.b false) s)) (κ1)) s (fun qv15 v16 s => (fun qv17 => sandS (fun s κ1 => bnk (fun κ1 => wantC v16 true (ptrK b 5 s (κ1)) (κ1 .e s)) κ1) s (fun qv18 v19 s => sandS (fun s κ1 => bnk (fun κ1 => wantC v16 true (ldV v19 false 1 s (κ1)) (κ1 .e s)) κ1) s (fun qv20 v21 s => sandS (fun s κ1 => bnk (fun κ1 => wantC v16 true (ptrK b 0 s (κ1)) (κ1 .e s)) κ1) s (fun qv22 v23 s => sandS (fun s κ1 => bnk (fun κ1 => wantC v16 true (ldV v23 false 1 s (κ1)) (κ1 .e s)) κ1) s (fun qv24 v25 s => sandS (fun s κ1 => bnk (fun κ1 => wantC v16 true (call 58 [v21, v25] s (κ1)) (κ1 .e s)) κ1) s (fun qv26 v27 s => sandS (fun s κ1 => bnk (fun κ0 => condB v16 (κ0 v27 s) (κ0 (.b false) s)) (κ1)) s (fun qv28 v29 s => sandS (fun s κ1 => stA c v1 4 s (κ1)) s (fun qv30 v31 s => (fun qv32 => V.iff (dynA [] [qv0, qv2, qv4, qv6, qv7, qv9, qv11, qv13, qv15, qv17, qv18, qv20, qv22, qv24, qv26, qv28, qv30, qv32] [[], [true], [true, false], [true, false, false], [true, false, false, false], [true, false, false, false, true], [true, false, false, false, true, false], [true, false, false, false, false, false, false], [true, false, false, false, false, false, false, false], [true, false, false, false, false, false, false, false, false], [true, false, false, false, false, false, false, false, false, false], [true, false, false, false, false, false, false, false, false, false, false], [true, false, false, false, false, false, false, false, false, false, true, true], [true, false, false, false, false, false, false, false, false, false, true, true, false], [true, false, false, false, false, false, false, false, false, false, false, false, false, false], [true, false, false, false, false, false, false, false, false, false, false, false, false, false, false], [false, false, false, false, false, false, false, false, false, false, false, false, false, false, false, true], [false, false, false, false, false, false, false, false, false, false, false, false, false, false, false, false, false]]) (κ (X32.mk m a b c v29 f g h i l n o p r t u w v1 v3 v5 v5 v8 v10 v12 v14 v16 v16 v19 v21 v23 v25 v27 v29) s)) (qz s))))))))) (qz s))))))) (qz s))))) x s κ
theorem r49x3ok : RgOk P true o49x3 T32 r49x3 := fun _ _ x _ _ => by cases x; kernel_rfl
def S49 : SF X32 := (seqS (regS P t2.fq r49x0) (seqS (regS P t2.fq r49x1) (seqS (regS P t2.fq r49x2) (seqS (regS P t2.fq r49x3) retS))))
theorem S49ok : Sh P t2.fq T32 c49v S49 := by
  have e : c49v = (.seq (.region 0 o49x0 false) (.seq (.region 1 o49x1 false) (.seq (.region 2 o49x2 false) (.seq (.region 3 o49x3 true) .ret)))) := by kernel_rfl
  rw [e]
  exact (sh_seq (sh_reg r49x0ok) (sh_seq (sh_reg r49x1ok) (sh_seq (sh_reg r49x2ok) (sh_seq (sh_reg r49x3ok) sh_ret))))
def A49 : List FV → Option X32 := fun l => match l with
  | [a] => some (X32.mk [] a .e .e .e .e .e .e .e .e .e .e .e .e .e .e .e .e .e .e .e .e .e .e .e .e .e .e .e .e .e .e .e)
  | _ => none
def L49 : LQ := shal P T32 S49 [.cell 2 75, .tmp 3] 4000 A49
def E49 : LA := evCall P t2.fa 4000 49
theorem G49 : Good P 49 L49 E49 := good_shal all2 (by kernel_rfl) (show FT P 49 = some (c49v, 32, [.cell 2 75, .tmp 3]) by kernel_rfl) S49ok (fun l x h => by
    unfold A49 at h
    split at h
    · cases h; exact ⟨by kernel_rfl, by kernel_rfl⟩
    · cases h) 4000
inductive X36 where
  | mk (m : List Nat) (a b c d f g h i l n o p r t u w y z A B C D E F G H I J K L M N O Q R S : FV)
def T36 (x : X36) : FF := X36.rec (motive := fun _ => FF) (fun m a b c d f g h i l n o p r t u w y z A B C D E F G H I J K L M N O Q R S => ⟨(.n a (.n b (.n g (.n D .e .e .e .e) .e .e .e) (.n n (.n H .e .e .e .e) .e .e .e) (.n t (.n L .e .e .e .e) .e .e .e) (.n z (.n Q .e .e .e .e) .e .e .e)) (.n c (.n h (.n E .e .e .e .e) .e .e .e) (.n o (.n I .e .e .e .e) .e .e .e) (.n u (.n M .e .e .e .e) .e .e .e) (.n A (.n R .e .e .e .e) .e .e .e)) (.n d (.n i (.n F .e .e .e .e) .e .e .e) (.n p (.n J .e .e .e .e) .e .e .e) (.n w (.n N .e .e .e .e) .e .e .e) (.n B (.n S .e .e .e .e) .e .e .e)) (.n f (.n l (.n G .e .e .e .e) .e .e .e) (.n r (.n K .e .e .e .e) .e .e .e) (.n y (.n O .e .e .e .e) .e .e .e) (.n C .e .e .e .e))), 36, m⟩) x
def c61v : Code := bodyOf P 61
def o61x0 : Array Oper := regO (pth [0] c61v)
def r61x0 : RG X36 := fun call yl x s κ => X36.rec (motive := fun _ => MO X36) (fun m a b c d f g h i l n o p r t u w y z A B C D E F G H I J K L M N O Q R S s κ => κ (X36.mk m a b (.i .i64 0) d f g h i l n o p r t u w y z A B C D E F G H I J K L M N O Q R S) s) x s κ
theorem r61x0ok : RgOk P false o61x0 T36 r61x0 := fun _ _ x _ _ => by cases x; kernel_rfl
def o61x1 : Array Oper := regO (pth [1, 0, 0] c61v)
def r61x1 : RG X36 := fun call yl x s κ => X36.rec (motive := fun _ => MO X36) (fun m a b c d f g h i l n o p r t u w y z A B C D E F G H I J K L M N O Q R S s κ => (fun qv0 => sandS (fun s κ1 => nilC a s (κ1)) s (fun qv1 v2 s => sandS (fun s κ1 => ptrK v2 1 s (κ1)) s (fun qv3 v4 s => sandS (fun s κ1 => ldV v4 true 36 s (κ1)) s (fun qv5 v6 s => sandS (fun s κ1 => call 93 [v6] s (κ1)) s (fun qv7 v8 s => sandS (fun s κ1 => notC v8 s (κ1)) s (fun qv9 v10 s => (fun qv11 => sandS (fun s κ1 => bnk (fun κ1 => wantC v10 false (κ1 a s) (κ1 .e s)) κ1) s (fun qv12 v13 s => sandS (fun s κ1 => bnk (fun κ1 => wantC v10 false (nilC v13 s (κ1)) (κ1 .e s)) κ1) s (fun qv14 v15 s => sandS (fun s κ1 => bnk (fun κ1 => wantC v10 false (ptrK v15 0 s (κ1)) (κ1 .e s)) κ1) s (fun qv16 v17 s => sandS (fun s κ1 => bnk (fun κ1 => wantC v10 false (ldV v17 false 1 s (κ1)) (κ1 .e s)) κ1) s (fun qv18 v19 s => sandS (fun s κ1 => bnk (fun κ1 => wantC v10 false (lenC v19 P 27 s (κ1)) (κ1 .e s)) κ1) s (fun qv20 v21 s => sandS (fun s κ1 => bnk (fun κ1 => wantC v10 false (binC v21 (.i .i64 16) 3 .gtr P s (κ1)) (κ1 .e s)) κ1) s (fun qv22 v23 s => sandS (fun s κ1 => bnk (fun κ0 => condB v10 (κ0 (.b true) s) (κ0 v23 s)) (κ1)) s (fun qv24 v25 s => (fun qv26 => sandS (fun s κ1 => bnk (fun κ1 => wantC v25 false (κ1 a s) (κ1 .e s)) κ1) s (fun qv27 v28 s => sandS (fun s κ1 => bnk (fun κ1 => wantC v25 false (nilC v28 s (κ1)) (κ1 .e s)) κ1) s (fun qv29 v30 s => sandS (fun s κ1 => bnk (fun κ1 => wantC v25 false (ptrK v30 1 s (κ1)) (κ1 .e s)) κ1) s (fun qv31 v32 s => sandS (fun s κ1 => bnk (fun κ1 => wantC v25 false (ptrK v32 0 s (κ1)) (κ1 .e s)) κ1) s (fun qv33 v34 s => sandS (fun s κ1 => bnk (fun κ1 => wantC v25 false (ldV v34 false 1 s (κ1)) (κ1 .e s)) κ1) s (fun qv35 v36 s => sandS (fun s κ1 => bnk (fun κ1 => wantC v25 false (κ1 a s) (κ1 .e s)) κ1) s (fun qv37 v38 s => sandS (fun s κ1 => bnk (fun κ1 => wantC v25 false (nilC v38 s (κ1)) (κ1 .e s)) κ1) s (fun qv39 v40 s => sandS (fun s κ1 => bnk (fun κ1 => wantC v25 false (ptrK v40 1 s (κ1)) (κ1 .e s)) κ1) s (fun qv41 v42 s => sandS (fun s κ1 => bnk (fun κ1 => wantC v25 false (ptrK v42 1 s (κ1)) (κ1 .e s)) κ1) s (fun qv43 v44 s => sandS (fun s κ1 => bnk (fun κ1 => wantC v25 false (ldV v44 false 1 s (κ1)) (κ1 .e s)) κ1) s (fun qv45 v46 s => sandS (fun s κ1 => bnk (fun κ1 => wantC v25 false (mmC true v36 [v46] s (κ1)) (κ1 .e s)) κ1) s (fun qv47 v48 s => sandS (fun s κ1 => bnk (fun κ1 => wantC v25 false (κ1 a s) (κ1 .e s)) κ1) s (fun qv49 v50 s => sandS (fun s κ1 => bnk (fun κ1 => wantC v25 false (nilC v50 s (κ1)) (κ1 .e s)) κ1) s (fun qv51 v52 s => sandS (fun s κ1 => bnk (fun κ1 => wantC v25 false (ptrK v52 0 s (κ1)) (κ1 .e s)) κ1) s (fun qv53 v54 s => sandS (fun s κ1 => bnk (fun κ1 => wantC v25 false (ldV v54 false 1 s (κ1)) (κ1 .e s)) κ1) s (fun qv55 v56 s => sandS (fun s κ1 => bnk (fun κ1 => wantC v25 false (lenC v56 P 27 s (κ1)) (κ1 .e s)) κ1) s (fun qv57 v58 s => sandS (fun s κ1 => bnk (fun κ1 => wantC v25 false (binC v48 v58 3 .geq P s (κ1)) (κ1 .e s)) κ1) s (fun qv59 v60 s => sandS (fun s κ1 => bnk (fun κ0 => condB v25 (κ0 (.b true) s) (κ0 v60 s)) (κ1)) s (fun qv61 v62 s => V.iff (dynA [] [qv0, qv1, qv3, qv5, qv7, qv9, qv11, qv12, qv14, qv16, qv18, qv20, qv22, qv24, qv26, qv27, qv29, qv31, qv33, qv35, qv37, qv39, qv41, qv43, qv45, qv47, qv49, qv51, qv53, qv55, qv57, qv59, qv61] [[], [false], [false, false], [false, false, false], [false, false, false, false], [false, false, false, false, false], [false, false, false, false, false, false], [false, false, false, false, false, false, false], [false, false, false, false, false, false, false, false], [false, false, false, false, false, false, false, false, false], [false, false, false, false, false, false, false, false, false, false], [false, false, false, false, false, false, false, false, false, false, false], [false, false, false, false, false, false, false, false, false, false, false, false], [false, false, false, false, false, false, false, false, false, false, false, false, false], [false, false, false, false, false, false, false, false, false, false, false, false, false, false], [false, false, false, false, false, false, false, false, false, false, false, false, false, false, false], [false, false, false, false, false, false, false, false, false, false, false, false, false, false, false, false], [false, false, false, false, false, false, false, false, false, false, false, false, false, false, false, false, false], [false, false, false, false, false, false, false, false, false, false, false, false, false, false, false, false, false, false], [false, false, false, false, false, false, false, false, false, false, false, false, false, false, false, false, false, false, false], [false, false, false, false, false, false, false, false, false, false, false, false, false, false, false, true, true, true, true, true], [false, false, false, false, false, false, false, false, false, false, false, false, false, false, false, true, true, true, true, true, false], [false, false, false, false, false, false, false, false, false, false, false, false, false, false, false, true, true, true, true, true, false, false], [false, false, false, false, false, false, false, false, false, false, false, false, false, false, false, true, true, true, true, true, false, false, false], [false, false, false, false, false, false, false, false, false, false, false, false, false, false, false, true, true, true, true, true, false, false, false, false], [false, false, false, false, false, false, false, false, false, false, false, false, false, false, false, false, false, false, false, false, false, false, false, false, false], [false, false, false, false, false, false, false, false, false, false, false, false, false, false, false, true, true, true, true, true, true, true, true, true, true, true], [false, false, false, false, false, false, false, false, false, false, false, false, false, false, false, true, true, true, true, true, true, true, true, true, true, true, false], [false, false, false, false, false, false, false, false, false, false, false, false, false, false, false, true, true, true, true, true, true, true, true, true, true, true, false, false], [false, false, false, false, false, false, false, false, false, false, false, false, false, false, false, true, true, true, true, true, true, true, true, true, true, true, false, false, false], [false, false, false, false, false, false, false, false, false, false, false, false, false, false, false, true, true, true, true, true, true, true, true, true, true, true, false, false, false, false], [false, false, false, false, false, false, false, false, false, false, false, false, false, false, false, false, false, false, false, false, false, false, false, false, false, false, false, false, false, false, false], [false, false, false, false, false, false, false, false, false, false, false, false, false, false, false, false, false, false, false, false, false, false, false, false, false, false, false, false, false, false, false, false]]) (κ (X36.mk m a b c a v2 v4 v6 v8 v10 v10 v13 v15 v17 v19 v21 v23 v25 v25 v28 v30 v32 v34 v36 v38 v40 v42 v44 v46 v48 v50 v52 v54 v56 v58 v60 v62) s)))))))))))))))))))) (qz s))))))))) (qz s))))))) (qz s)) x s κ
theorem r61x1ok : RgOk P true o61x1 T36 r61x1 := fun _ _ x _ _ => by cases x; kernel_rfl
def o61x2 : Array Oper := regO (pth [1, 0, 1, 0, 0] c61v)
def r61x2 : RG X36 := fun call yl x s κ => X36.rec (motive := fun _ => MO X36) (fun m a b c d f g h i l n o p r t u w y z A B C D E F G H I J K L M N O Q R S s κ => κ (X36.mk m a b (.i .i64 1) d f g h i l n o p r t u w y z A B C D E F G H I J K L M N O Q R S) s) x s κ
theorem r61x2ok : RgOk P false o61x2 T36 r61x2 := fun _ _ x _ _ => by cases x; kernel_rfl
def o61x3 : Array Oper := regO (pth [1, 1, 0] c61v)
def r61x3 : RG X36 := fun call yl x s κ => X36.rec (motive := fun _ => MO X36) (fun m a b c d f g h i l n o p r t u w y z A B C D E F G H I J K L M N O Q R S s κ => κ (X36.mk m a b (.i .i64 0) d f g h i l n o p r t u w y z A B C D E F G H I J K L M N O Q R S) s) x s κ
theorem r61x3ok : RgOk P false o61x3 T36 r61x3 := fun _ _ x _ _ => by cases x; kernel_rfl
def S61 : SF X36 := (seqS (regS P t2.fq r61x0) (seqS (seqS (regS P t2.fq r61x1) (condS (fun x => X36.rec (motive := fun _ => FV) (fun _ _ _ _ _ _ _ _ _ _ _ _ _ _ _ _ _ _ _ _ _ _ _ _ _ _ _ _ _ _ _ _ _ _ _ _ z => z) x) (seqS (regS P t2.fq r61x2) retS) skipS)) (seqS (regS P t2.fq r61x3) retS)))
theorem S61ok : Sh P t2.fq T36 c61v S61 := by
  have e : c61v = (.seq (.region 0 o61x0 false) (.seq (.seq (.region 1 o61x1 true) (.cond (.tmp 35) (.seq (.region 2 o61x2 false) .ret) .skip)) (.seq (.region 3 o61x3 false) .ret))) := by kernel_rfl
  rw [e]
  exact (sh_seq (sh_reg r61x0ok) (sh_seq (sh_seq (sh_reg r61x1ok) (sh_cond (fun x => by cases x; rfl) (sh_seq (sh_reg r61x2ok) sh_ret) sh_skip)) (sh_seq (sh_reg r61x3ok) sh_ret)))
def A61 : List FV → Option X36 := fun l => match l with
  | [a] => some (X36.mk [] a .e .e .e .e .e .e .e .e .e .e .e .e .e .e .e .e .e .e .e .e .e .e .e .e .e .e .e .e .e .e .e .e .e .e .e)
  | _ => none
def L61 : LQ := shal P T36 S61 [.tmp 2] 4000 A61
def E61 : LA := evCall P t2.fa 4000 61
theorem G61 : Good P 61 L61 E61 := good_shal all2 (by kernel_rfl) (show FT P 61 = some (c61v, 36, [.tmp 2]) by kernel_rfl) S61ok (fun l x h => by
    unfold A61 at h
    split at h
    · cases h; exact ⟨by kernel_rfl, by kernel_rfl⟩
    · cases h) 4000
def c62v : Code := bodyOf P 62
def o62x0 : Array Oper := regO (pth [0] c62v)
def r62x0 : RG X25 := fun call yl x s κ => X25.rec (motive := fun _ => MO X25) (fun m a b c d f g h i l n o p r t u w y z A B C D E F G s κ => κ (X25.mk m a b (.i .i64 0) d f g h i l n o p r t u w y z A B C D E F G) s) x s κ
theorem r62x0ok : RgOk P false o62x0 T25 r62x0 := fun _ _ x _ _ => by cases x; kernel_rfl
def o62x1 : Array Oper := regO (pth [1, 0, 0] c62v)
def r62x1 : RG X25 := fun call yl x s κ => X25.rec (motive := fun _ => MO X25) (fun m a b c d f g h i l n o p r t u w y z A B C D E F G s κ => (fun qv0 => sandS (fun s κ1 => nilC a s (κ1)) s (fun qv1 v2 s => sandS (fun s κ1 => ptrK v2 0 s (κ1)) s (fun qv3 v4 s => sandS (fun s κ1 => ldV v4 false 1 s (κ1)) s (fun qv5 v6 s => (fun qv7 => sandS (fun s κ1 => nilC a s (κ1)) s (fun qv8 v9 s => sandS (fun s κ1 => ptrK v9 1 s (κ1)) s (fun qv10 v11 s => sandS (fun s κ1 => ptrK v11 0 s (κ1)) s (fun qv12 v13 s => sandS (fun s κ1 => ldV v13 false 1 s (κ1)) s (fun qv14 v15 s => sandS (fun s κ1 => natK v15 fun j => iaS v6 j 32 s (κ1)) s (fun qv16 v17 s => sandS (fun s κ1 => ldV v17 true 32 s (κ1)) s (fun qv18 v19 s => (fun qv20 => sandS (fun s κ1 => nilC a s (κ1)) s (fun qv21 v22 s => sandS (fun s κ1 => ptrK v22 1 s (κ1)) s (fun qv23 v24 s => sandS (fun s κ1 => ldV v24 true 36 s (κ1)) s (fun qv25 v26 s => sandS (fun s κ1 => call 71 [v19, v26] s (κ1)) s (fun qv27 v28 s => (fun qv29 => sandS (fun s κ1 => nilC a s (κ1)) s (fun qv30 v31 s => sandS (fun s κ1 => ptrK v31 1 s (κ1)) s (fun qv32 v33 s => sandS (fun s κ1 => ptrK v33 4 s (κ1)) s (fun qv34 v35 s => sandS (fun s κ1 => ldV v35 true 32 s (κ1)) s (fun qv36 v37 s => sandS (fun s κ1 => binC v28 v37 51 .neq P s (κ1)) s (fun qv38 v39 s => V.iff (dynA [] [qv0, qv1, qv3, qv5, qv7, qv8, qv10, qv12, qv14, qv16, qv18, qv20, qv21, qv23, qv25, qv27, qv29, qv30, qv32, qv34, qv36, qv38] [[], [false], [false, false], [false, false, false], [true, true, true, true], [true, true, true, true, false], [true, true, true, true, false, false], [true, true, true, true, false, false, false], [true, true, true, true, false, false, false, false], [false, false, false, false, false, false, false, false, false], [false, false, false, false, false, false, false, false, false, false], [true, true, true, true, true, true, true, true, true, true, true], [true, true, true, true, true, true, true, true, true, true, true, false], [true, true, true, true, true, true, true, true, true, true, true, false, false], [true, true, true, true, true, true, true, true, true, true, true, false, false, false], [false, false, false, false, false, false, false, false, false, false, false, false, false, false, false], [true, true, true, true, true, true, true, true, true, true, true, true, true, true, true, true], [true, true, true, true, true, true, true, true, true, true, true, true, true, true, true, true, false], [true, true, true, true, true, true, true, true, true, true, true, true, true, true, true, true, false, false], [true, true, true, true, true, true, true, true, true, true, true, true, true, true, true, true, false, false, false], [true, true, true, true, true, true, true, true, true, true, true, true, true, true, true, true, false, false, false, false], [false, false, false, false, false, false, false, false, false, false, false, false, false, false, false, false, false, false, false, false, false]]) (κ (X25.mk m a b c a v2 v4 v6 a v9 v11 v13 v15 v17 v19 a v22 v24 v26 v28 a v31 v33 v35 v37 v39) s))))))) (qz s)))))) (qz s)))))))) (qz s))))) (qz s)) x s κ
theorem r62x1ok : RgOk P true o62x1 T25 r62x1 := fun _ _ x _ _ => by cases x; kernel_rfl
def o62x2 : Array Oper := regO (pth [1, 0, 1, 0, 0] c62v)
def r62x2 : RG X25 := fun call yl x s κ => X25.rec (motive := fun _ => MO X25) (fun m a b c d f g h i l n o p r t u w y z A B C D E F G s κ => κ (X25.mk m a b (.i .i64 8) d f g h i l n o p r t u w y z A B C D E F G) s) x s κ
theorem r62x2ok : RgOk P false o62x2 T25 r62x2 := fun _ _ x _ _ => by cases x; kernel_rfl
def o62x3 : Array Oper := regO (pth [1, 1, 0] c62v)
def r62x3 : RG X25 := fun call yl x s κ => X25.rec (motive := fun _ => MO X25) (fun m a b c d f g h i l n o p r t u w y z A B C D E F G s κ => κ (X25.mk m a b (.i .i64 0) d f g h i l n o p r t u w y z A B C D E F G) s) x s κ
theorem r62x3ok : RgOk P false o62x3 T25 r62x3 := fun _ _ x _ _ => by cases x; kernel_rfl
def S62 : SF X25 := (seqS (regS P t2.fq r62x0) (seqS (seqS (regS P t2.fq r62x1) (condS (fun x => X25.rec (motive := fun _ => FV) (fun _ _ _ _ _ _ _ _ _ _ _ _ _ _ _ _ _ _ _ _ _ _ _ _ _ z => z) x) (seqS (regS P t2.fq r62x2) retS) skipS)) (seqS (regS P t2.fq r62x3) retS)))
theorem S62ok : Sh P t2.fq T25 c62v S62 := by
  have e : c62v = (.seq (.region 0 o62x0 false) (.seq (.seq (.region 1 o62x1 true) (.cond (.tmp 24) (.seq (.region 2 o62x2 false) .ret) .skip)) (.seq (.region 3 o62x3 false) .ret))) := by kernel_rfl
  rw [e]
  exact (sh_seq (sh_reg r62x0ok) (sh_seq (sh_seq (sh_reg r62x1ok) (sh_cond (fun x => by cases x; rfl) (sh_seq (sh_reg r62x2ok) sh_ret) sh_skip)) (sh_seq (sh_reg r62x3ok) sh_ret)))
def A62 : List FV → Option X25 := fun l => match l with
  | [a] => some (X25.mk [] a .e .e .e .e .e .e .e .e .e .e .e .e .e .e .e .e .e .e .e .e .e .e .e .e)
  | _ => none
def L62 : LQ := shal P T25 S62 [.tmp 2] 4000 A62
def E62 : LA := evCall P t2.fa 4000 62
theorem G62 : Good P 62 L62 E62 := good_shal all2 (by kernel_rfl) (show FT P 62 = some (c62v, 25, [.tmp 2]) by kernel_rfl) S62ok (fun l x h => by
    unfold A62 at h
    split at h
    · cases h; exact ⟨by kernel_rfl, by kernel_rfl⟩
    · cases h) 4000
def c92v : Code := bodyOf P 92
def o92x0 : Array Oper := regO (pth [0] c92v)
def r92x0 : RG X30 := fun call yl x s κ => X30.rec (motive := fun _ => MO X30) (fun m a b c d f g h i l n o p r t u w y z A B C D E F G H I J K L s κ => allocC P 51 s (fun v0 s => κ (X30.mk m a b v0 d f g h i l n o p r t u w y z A B C D E F G H I J K L) s)) x s κ
theorem r92x0ok : RgOk P false o92x0 T30 r92x0 := fun _ _ x _ _ => by cases x; kernel_rfl
def o92x1 : Array Oper := regO (pth [1, 0] c92v)
def r92x1 : RG X30 := fun call yl x s κ => X30.rec (motive := fun _ => MO X30) (fun m a b c d f g h i l n o p r t u w y z A B C D E F G H I J K L s κ => buildC P 189 [(0, (.i .u32 1779033703)), (1, (.i .u32 3144134277)), (2, (.i .u32 1013904242)), (3, (.i .u32 2773480762)), (4, (.i .u32 1359893119)), (5, (.i .u32 2600822924)), (6, (.i .u32 528734635)), (7, (.i .u32 1541459225))] s (fun v0 s => allocC P 189 s (fun v1 s => stA v1 v0 8 s (fun _ s => κ (X30.mk m a b c v1 f g h v0 l n o p r t u w y z A B C D E F G H I J K L) s)))) x s κ
theorem r92x1ok : RgOk P false o92x1 T30 r92x1 := fun _ _ x _ _ => by cases x; kernel_rfl
def o92x2 : Array Oper := regO (pth [1, 1, 0, 0] c92v)
def r92x2 : RG X30 := fun call yl x s κ => X30.rec (motive := fun _ => MO X30) (fun m a b c d f g h i l n o p r t u w y z A B C D E F G H I J K L s κ => call 114 [a] s (fun v0 s => κ (X30.mk m a b c d f g h i a v0 o p r t u w y z A B C D E F G H I J K L) s)) x s κ
theorem r92x2ok : RgOk P false o92x2 T30 r92x2 := fun _ _ x _ _ => by cases x; kernel_rfl
def g92x3 : Code × Code := rngO (pth [1, 1, 0, 1, 0] c92v)
def o92x4 : Array Oper := regO (pth [1, 1, 1, 0] c92v)
def r92x4 : RG X30 := fun call yl x s κ => X30.rec (motive := fun _ => MO X30) (fun m a b c d f g h i l n o p r t u w y z A B C D E F G H I J K L s κ => allocC P 51 s (fun v0 s => κ (X30.mk m a b c d f v0 h i l n o p r t u w y z A B C D E F G H I J K L) s)) x s κ
theorem r92x4ok : RgOk P false o92x4 T30 r92x4 := fun _ _ x _ _ => by cases x; kernel_rfl
def o92x5 : Array Oper := regO (pth [1, 1, 1, 1, 0, 0] c92v)
def r92x5 : RG X30 := fun call yl x s κ => X30.rec (motive := fun _ => MO X30) (fun m a b c d f g h i l n o p r t u w y z A B C D E F G H I J K L s κ => κ (X30.mk m a b c d f g h i l n o p r (.i .i64 0) u w y z A B C D E F G H I J K L) s) x s κ
theorem r92x5ok : RgOk P false o92x5 T30 r92x5 := fun _ _ x _ _ => by cases x; kernel_rfl
def o92x6 : Array Oper := regO (pth [1, 1, 1, 1, 0, 1, 0, 0, 0] c92v)
def r92x6 : RG X30 := fun call yl x s κ => X30.rec (motive := fun _ => MO X30) (fun m a b c d f g h i l n o p r t u w y z A B C D E F G H I J K L s κ => binC t (.i .i64 32) 3 .lss P s (fun v0 s => κ (X30.mk m a b c d f g h i l n o p r t v0 w y z A B C D E F G H I J K L) s)) x s κ
theorem r92x6ok : RgOk P false o92x6 T30 r92x6 := fun _ _ x _ _ => by cases x; kernel_rfl
def o92x7 : Array Oper := regO (pth [1, 1, 1, 1, 0, 1, 0, 0, 1, 1, 0, 0, 0] c92v)
def r92x7 : RG X30 := fun call yl x s κ => X30.rec (motive := fun _ => MO X30) (fun m a b c d f g h i l n o p r t u w y z A B C D E F G H I J K L s κ => κ (X30.mk m a b c d f g t i l n o p r t u t y z A B C D E F G H I J K L) s) x s κ
theorem r92x7ok : RgOk P false o92x7 T30 r92x7 := fun _ _ x _ _ => by cases x; kernel_rfl
def o92x8 : Array Oper := regO (pth [1, 1, 1, 1, 0, 1, 0, 0, 1, 1, 0, 0, 1] c92v)
def r92x8 : RG X30 := fun call yl x s κ => X30.rec (motive := fun _ => MO X30) (fun m a b c d f g h i l n o p r t u w y z A B C D E F G H I J K L s κ => binC h (.i .i64 4) 3 .quo P s (fun v0 s => natK v0 fun j => iaP d 8 j 1 s (fun v1 s => ldV v1 false 1 s (fun v2 s => binC h (.i .i64 4) 3 .rem P s (fun v3 s => binC (.i .i64 8) v3 3 .mul P s (fun v4 s => binC (.i .i64 24) v4 3 .sub P s (fun v5 s => binC v2 v5 147 .shr P s (fun v6 s => cvV v6 .u8 s (fun v7 s => natK h fun j => iaP g 32 j 1 s (fun v8 s => stA v8 v7 1 s (fun _ s => κ (X30.mk m a b c d f g h i l n o p r t u w h h v0 v1 v2 h v3 v4 v5 v6 v7 v8 K L) s))))))))))) x s κ
theorem r92x8ok : RgOk P false o92x8 T30 r92x8 := fun _ _ x _ _ => by cases x; kernel_rfl
def o92x9 : Array Oper := regO (pth [1, 1, 1, 1, 0, 1, 0, 0, 1, 1, 1] c92v)
def r92x9 : RG X30 := fun call yl x s κ => X30.rec (motive := fun _ => MO X30) (fun m a b c d f g h i l n o p r t u w y z A B C D E F G H I J K L s κ => binC t (.i .i64 1) 3 .add P s (fun v0 s => κ (X30.mk m a b c d f g h i l n o p r v0 u w y z A B C D E F G H I J v0 L) s)) x s κ
theorem r92x9ok : RgOk P false o92x9 T30 r92x9 := fun _ _ x _ _ => by cases x; kernel_rfl
def o92x10 : Array Oper := regO (pth [1, 1, 1, 1, 1, 0] c92v)
def r92x10 : RG X30 := fun call yl x s κ => X30.rec (motive := fun _ => MO X30) (fun m a b c d f g h i l n o p r t u w y z A B C D E F G H I J K L s κ => ldV g true 32 s (fun v0 s => stA c v0 32 s (fun _ s => κ (X30.mk m a b c d f g h i l n o p r t u w y z A B C D E F G H I J K v0) s))) x s κ
theorem r92x10ok : RgOk P false o92x10 T30 r92x10 := fun _ _ x _ _ => by cases x; kernel_rfl
def S92 : SF X30 := (seqS (regS P t2.fq r92x0) (seqS (regS P t2.fq r92x1) (seqS (seqS (regS P t2.fq r92x2) (blkS 0 (rngS P t2.fq T30 (fun δ x => X30.rec (motive := fun _ => X30) (fun m a b c d f g h i l n o p r t u w y z A B C D E F G H I J K L => X30.mk (δ :: m) a b c d f g h i l n o p r t u w y z A B C D E F G H I J K L) x) (fun x => X30.rec (motive := fun _ => FV) (fun _ _ _ _ _ _ _ _ _ _ z _ _ _ _ _ _ _ _ _ _ _ _ _ _ _ _ _ _ _ _ => z) x) [10] g92x3.1 g92x3.2))) (seqS (regS P t2.fq r92x4) (seqS (seqS (regS P t2.fq r92x5) (blkS 2 (loopS (seqS (regS P t2.fq r92x6) (seqS (condS (fun x => X30.rec (motive := fun _ => FV) (fun _ _ _ _ _ _ _ _ _ _ _ _ _ _ _ z _ _ _ _ _ _ _ _ _ _ _ _ _ _ _ => z) x) skipS (exitS 2)) (seqS (blkS 3 (seqS (regS P t2.fq r92x7) (regS P t2.fq r92x8))) (regS P t2.fq r92x9))))))) (seqS (regS P t2.fq r92x10) retS))))))
theorem S92ok : Sh P t2.fq T30 c92v S92 := by
  have e : c92v = (.seq (.region 0 o92x0 false) (.seq (.region 1 o92x1 false) (.seq (.seq (.region 2 o92x2 false) (.block 0 (.rangeFunc (.tmp 9) #[10] g92x3.1 g92x3.2))) (.seq (.region 5 o92x4 false) (.seq (.seq (.region 6 o92x5 false) (.block 2 (.loop (.seq (.region 7 o92x6 false) (.seq (.cond (.tmp 14) .skip (.exit 2)) (.seq (.block 3 (.seq (.region 8 o92x7 false) (.region 9 o92x8 false))) (.region 10 o92x9 false))))))) (.seq (.region 11 o92x10 false) .ret)))))) := by kernel_rfl
  rw [e]
  exact (sh_seq (sh_reg r92x0ok) (sh_seq (sh_reg r92x1ok) (sh_seq (sh_seq (sh_reg r92x2ok) (sh_blk 0 (sh_rng (mk := (fun δ x => X30.rec (motive := fun _ => X30) (fun m a b c d f g h i l n o p r t u w y z A B C D E F G H I J K L => X30.mk (δ :: m) a b c d f g h i l n o p r t u w y z A B C D E F G H I J K L) x)) (get := (fun x => X30.rec (motive := fun _ => FV) (fun _ _ _ _ _ _ _ _ _ _ z _ _ _ _ _ _ _ _ _ _ _ _ _ _ _ _ _ _ _ _ => z) x)) (fun x => by cases x; rfl) (fun d x => by cases x; rfl)))) (sh_seq (sh_reg r92x4ok) (sh_seq (sh_seq (sh_reg r92x5ok) (sh_blk 2 (sh_loop (sh_seq (sh_reg r92x6ok) (sh_seq (sh_cond (fun x => by cases x; rfl) sh_skip (sh_exit 2)) (sh_seq (sh_blk 3 (sh_seq (sh_reg r92x7ok) (sh_reg r92x8ok))) (sh_reg r92x9ok))))))) (sh_seq (sh_reg r92x10ok) sh_ret))))))
def A92 : List FV → Option X30 := fun l => match l with
  | [a] => some (X30.mk [] a .e .e .e .e .e .e .e .e .e .e .e .e .e .e .e .e .e .e .e .e .e .e .e .e .e .e .e .e .e)
  | _ => none
def L92 : LQ := shal P T30 S92 [.cell 2 51] 4000 A92
def E92 : LA := evCall P t2.fa 4000 92
theorem G92 : Good P 92 L92 E92 := good_shal all2 (by kernel_rfl) (show FT P 92 = some (c92v, 30, [.cell 2 51]) by kernel_rfl) S92ok (fun l x h => by
    unfold A92 at h
    split at h
    · cases h; exact ⟨by kernel_rfl, by kernel_rfl⟩
    · cases h) 4000
def c118v : Code := bodyOf P 118
def o118x0 : Array Oper := regO (pth [0] c118v)
def r118x0 : RG X23 := fun call yl x s κ => X23.rec (motive := fun _ => MO X23) (fun m a b c d f g h i l n o p r t u w y z A B C D E s κ => κ (X23.mk m a b c d (.i .i64 0) g h i l n o p r t u w y z A B C D E) s) x s κ
theorem r118x0ok : RgOk P false o118x0 T23 r118x0 := fun _ _ x _ _ => by cases x; kernel_rfl
def o118x1 : Array Oper := regO (pth [1, 0] c118v)
def r118x1 : RG X23 := fun call yl x s κ => X23.rec (motive := fun _ => MO X23) (fun m a b c d f g h i l n o p r t u w y z A B C D E s κ => allocC P 3 s (fun v0 s => stA v0 (.i .i64 0) 1 s (fun _ s => κ (X23.mk m a b c d f v0 h i l n o p r t u w y z A B C D E) s))) x s κ
theorem r118x1ok : RgOk P false o118x1 T23 r118x1 := fun _ _ x _ _ => by cases x; kernel_rfl
def o118x2 : Array Oper := regO (pth [1, 1, 0, 0] c118v)
def r118x2 : RG X23 := fun call yl x s κ => X23.rec (motive := fun _ => MO X23) (fun m a b c d f g h i l n o p r t u w y z A B C D E s κ => nilC a s (fun v0 s => ptrK v0 1 s (fun v1 s => ldV v1 false 1 s (fun v2 s => callV v2 [b] call yl s (fun v3 s => call 143 [v3] s (fun v4 s => κ (X23.mk m a b c d f g h i a v0 v1 v2 b v3 v4 w y z A B C D E) s)))))) x s κ
theorem r118x2ok : RgOk P false o118x2 T23 r118x2 := fun _ _ x _ _ => by cases x; kernel_rfl
def g118x3 : Code × Code := rngO (pth [1, 1, 0, 1, 0] c118v)
def o118x4 : Array Oper := regO (pth [1, 1, 1, 0] c118v)
def r118x4 : RG X23 := fun call yl x s κ => X23.rec (motive := fun _ => MO X23) (fun m a b c d f g h i l n o p r t u w y z A B C D E s κ => ldV g false 1 s (fun v0 s => κ (X23.mk m a b c d v0 g h i l n o p r t u w y z A B C D v0) s)) x s κ
theorem r118x4ok : RgOk P false o118x4 T23 r118x4 := fun _ _ x _ _ => by cases x; kernel_rfl
def S118 : SF X23 := (seqS (regS P t2.fq r118x0) (seqS (regS P t2.fq r118x1) (seqS (seqS (regS P t2.fq r118x2) (blkS 0 (rngS P t2.fq T23 (fun δ x => X23.rec (motive := fun _ => X23) (fun m a b c d f g h i l n o p r t u w y z A B C D E => X23.mk (δ :: m) a b c d f g h i l n o p r t u w y z A B C D E) x) (fun x => X23.rec (motive := fun _ => FV) (fun _ _ _ _ _ _ _ _ _ _ _ _ _ _ _ z _ _ _ _ _ _ _ _ => z) x) [15, 16] g118x3.1 g118x3.2))) (seqS (regS P t2.fq r118x4) retS))))
theorem S118ok : Sh P t2.fq T23 c118v S118 := by
  have e : c118v = (.seq (.region 0 o118x0 false) (.seq (.region 1 o118x1 false) (.seq (.seq (.region 2 o118x2 false) (.block 0 (.rangeFunc (.tmp 14) #[15, 16] g118x3.1 g118x3.2))) (.seq (.region 5 o118x4 false) .ret)))) := by kernel_rfl
  rw [e]
  exact (sh_seq (sh_reg r118x0ok) (sh_seq (sh_reg r118x1ok) (sh_seq (sh_seq (sh_reg r118x2ok) (sh_blk 0 (sh_rng (mk := (fun δ x => X23.rec (motive := fun _ => X23) (fun m a b c d f g h i l n o p r t u w y z A B C D E => X23.mk (δ :: m) a b c d f g h i l n o p r t u w y z A B C D E) x)) (get := (fun x => X23.rec (motive := fun _ => FV) (fun _ _ _ _ _ _ _ _ _ _ _ _ _ _ _ z _ _ _ _ _ _ _ _ => z) x)) (fun x => by cases x; rfl) (fun d x => by cases x; rfl)))) (sh_seq (sh_reg r118x4ok) sh_ret))))
def A118 : List FV → Option X23 := fun l => match l with
  | [a, b] => some (X23.mk [] a b .e .e .e .e .e .e .e .e .e .e .e .e .e .e .e .e .e .e .e .e .e)
  | _ => none
def L118 : LQ := shal P T23 S118 [.tmp 4] 4000 A118
def E118 : LA := evCall P t2.fa 4000 118
theorem G118 : Good P 118 L118 E118 := good_shal all2 (by kernel_rfl) (show FT P 118 = some (c118v, 23, [.tmp 4]) by kernel_rfl) S118ok (fun l x h => by
    unfold A118 at h
    split at h
    · cases h; exact ⟨by kernel_rfl, by kernel_rfl⟩
    · cases h) 4000
def t3 : LT := (.n 71 L71 E71 (.n 46 L46 E46 (.n 32 L32 E32 (.n 28 L28 E28 (.n 22 L22 E22 (.n 21 L21 E21 .e .e) (.n 27 L27 E27 .e .e)) (.n 31 L31 E31 (.n 30 L30 E30 .e .e) .e)) (.n 40 L40 E40 (.n 39 L39 E39 (.n 33 L33 E33 .e .e) .e) (.n 43 L43 E43 (.n 42 L42 E42 .e .e) .e))) (.n 61 L61 E61 (.n 57 L57 E57 (.n 56 L56 E56 (.n 49 L49 E49 .e .e) .e) (.n 60 L60 E60 (.n 58 L58 E58 .e .e) .e)) (.n 66 L66 E66 (.n 64 L64 E64 (.n 62 L62 E62 .e .e) .e) (.n 68 L68 E68 (.n 67 L67 E67 .e .e) .e)))) (.n 115 L115 E115 (.n 91 L91 E91 (.n 76 L76 E76 (.n 73 L73 E73 (.n 72 L72 E72 .e .e) .e) (.n 90 L90 E90 (.n 86 L86 E86 .e .e) .e)) (.n 95 L95 E95 (.n 93 L93 E93 (.n 92 L92 E92 .e .e) .e) (.n 97 L97 E97 (.n 96 L96 E96 .e .e) .e))) (.n 125 L125 E125 (.n 118 L118 E118 (.n 117 L117 E117 (.n 116 L116 E116 .e .e) .e) (.n 124 L124 E124 (.n 123 L123 E123 .e .e) .e)) (.n 142 L142 E142 (.n 141 L141 E141 (.n 138 L138 E138 .e .e) .e) (.n 147 L147 E147 (.n 143 L143 E143 .e .e) .e)))))
theorem all3 : t3.all (Good P) := ⟨G71, ⟨G46, ⟨G32, ⟨G28, ⟨G22, ⟨G21, trivial, trivial⟩, ⟨G27, trivial, trivial⟩⟩, ⟨G31, ⟨G30, trivial, trivial⟩, trivial⟩⟩, ⟨G40, ⟨G39, ⟨G33, trivial, trivial⟩, trivial⟩, ⟨G43, ⟨G42, trivial, trivial⟩, trivial⟩⟩⟩, ⟨G61, ⟨G57, ⟨G56, ⟨G49, trivial, trivial⟩, trivial⟩, ⟨G60, ⟨G58, trivial, trivial⟩, trivial⟩⟩, ⟨G66, ⟨G64, ⟨G62, trivial, trivial⟩, trivial⟩, ⟨G68, ⟨G67, trivial, trivial⟩, trivial⟩⟩⟩⟩, ⟨G115, ⟨G91, ⟨G76, ⟨G73, ⟨G72, trivial, trivial⟩, trivial⟩, ⟨G90, ⟨G86, trivial, trivial⟩, trivial⟩⟩, ⟨G95, ⟨G93, ⟨G92, trivial, trivial⟩, trivial⟩, ⟨G97, ⟨G96, trivial, trivial⟩, trivial⟩⟩⟩, ⟨G125, ⟨G118, ⟨G117, ⟨G116, trivial, trivial⟩, trivial⟩, ⟨G124, ⟨G123, trivial, trivial⟩, trivial⟩⟩, ⟨G142, ⟨G141, ⟨G138, trivial, trivial⟩, trivial⟩, ⟨G147, ⟨G143, trivial, trivial⟩, trivial⟩⟩⟩⟩⟩
end
end V
end Go.CE
namespace Go.CE
namespace V
set_option maxRecDepth 100000
noncomputable section
variable [Sym] [SymOk]
inductive X84 where
  | mk (m : List Nat) (a b c d f g h i l n o p r t u w y z A B C D E F G H I J K L M N O Q R S T U W Y Z a1 b1 c1 d1 f1 g1 h1 i1 l1 n1 o1 p1 r1 t1 u1 w1 y1 z1 A1 B1 C1 D1 E1 F1 G1 H1 I1 J1 K1 L1 M1 N1 O1 Q1 R1 S1 T1 U1 W1 Y1 Z1 a2 b2 : FV)
def T84 (x : X84) : FF := X84.rec (motive := fun _ => FF) (fun m a b c d f g h i l n o p r t u w y z A B C D E F G H I J K L M N O Q R S T U W Y Z a1 b1 c1 d1 f1 g1 h1 i1 l1 n1 o1 p1 r1 t1 u1 w1 y1 z1 A1 B1 C1 D1 E1 F1 G1 H1 I1 J1 K1 L1 M1 N1 O1 Q1 R1 S1 T1 U1 W1 Y1 Z1 a2 b2 => ⟨(.n a (.n b (.n g (.n D .e .e .e .e) (.n U .e .e .e .e) (.n r1 .e .e .e .e) (.n K1 .e .e .e .e)) (.n n (.n H .e .e .e .e) (.n a1 .e .e .e .e) (.n y1 .e .e .e .e) (.n O1 .e .e .e .e)) (.n t (.n L .e .e .e .e) (.n f1 .e .e .e .e) (.n C1 .e .e .e .e) (.n T1 .e .e .e .e)) (.n z (.n Q .e .e .e .e) (.n l1 .e .e .e .e) (.n G1 .e .e .e .e) (.n Z1 .e .e .e .e))) (.n c (.n h (.n E .e .e .e .e) (.n W .e .e .e .e) (.n t1 .e .e .e .e) (.n L1 .e .e .e .e)) (.n o (.n I .e .e .e .e) (.n b1 .e .e .e .e) (.n z1 .e .e .e .e) (.n Q1 .e .e .e .e)) (.n u (.n M .e .e .e .e) (.n g1 .e .e .e .e) (.n D1 .e .e .e .e) (.n U1 .e .e .e .e)) (.n A (.n R .e .e .e .e) (.n n1 .e .e .e .e) (.n H1 .e .e .e .e) (.n a2 .e .e .e .e))) (.n d (.n i (.n F .e .e .e .e) (.n Y .e .e .e .e) (.n u1 .e .e .e .e) (.n M1 .e .e .e .e)) (.n p (.n J .e .e .e .e) (.n c1 .e .e .e .e) (.n A1 .e .e .e .e) (.n R1 .e .e .e .e)) (.n w (.n N .e .e .e .e) (.n h1 .e .e .e .e) (.n E1 .e .e .e .e) (.n W1 .e .e .e .e)) (.n B (.n S .e .e .e .e) (.n o1 .e .e .e .e) (.n I1 .e .e .e .e) (.n b2 .e .e .e .e))) (.n f (.n l (.n G .e .e .e .e) (.n Z .e .e .e .e) (.n w1 .e .e .e .e) (.n N1 .e .e .e .e)) (.n r (.n K .e .e .e .e) (.n d1 .e .e .e .e) (.n B1 .e .e .e .e) (.n S1 .e .e .e .e)) (.n y (.n O .e .e .e .e) (.n i1 .e .e .e .e) (.n F1 .e .e .e .e) (.n Y1 .e .e .e .e)) (.n C (.n T .e .e .e .e) (.n p1 .e .e .e .e) (.n J1 .e .e .e .e) .e))), 84, m⟩) x
def c41v : Code := bodyOf P 41
def o41x0 : Array Oper := regO (pth [0] c41v)
def r41x0 : RG X84 := fun call yl x s κ => X84.rec (motive := fun _ => MO X84) (fun m a b c d f g h i l n o p r t u w y z A B C D E F G H I J K L M N O Q R S T U W Y Z a1 b1 c1 d1 f1 g1 h1 i1 l1 n1 o1 p1 r1 t1 u1 w1 y1 z1 A1 B1 C1 D1 E1 F1 G1 H1 I1 J1 K1 L1 M1 N1 O1 Q1 R1 S1 T1 U1 W1 Y1 Z1 a2 b2 s κ => bxV a 53 s (fun v0 s => κ (X84.mk m a v0 (.b false) d f g h i l n o p r t u w y z A B C D E F G H I J K L M N O Q R S T U W Y Z a1 b1 c1 d1 f1 g1 h1 i1 l1 n1 o1 p1 r1 t1 u1 w1 y1 z1 A1 B1 C1 D1 E1 F1 G1 H1 I1 J1 K1 L1 M1 N1 O1 Q1 R1 S1 T1 U1 W1 Y1 Z1 a2 b2) s)) x s κ
theorem r41x0ok : RgOk P false o41x0 T84 r41x0 := fun _ _ x _ _ => by cases x; kernel_rfl
def o41x1 : Array Oper := regO (pth [1, 0] c41v)
def r41x1 : RG X84 := fun call yl x s κ => X84.rec (motive := fun _ => MO X84) (fun m a b c d f g h i l n o p r t u w y z A B C D E F G H I J K L M N O Q R S T U W Y Z a1 b1 c1 d1 f1 g1 h1 i1 l1 n1 o1 p1 r1 t1 u1 w1 y1 z1 A1 B1 C1 D1 E1 F1 G1 H1 I1 J1 K1 L1 M1 N1 O1 Q1 R1 S1 T1 U1 W1 Y1 Z1 a2 b2 s κ => sandS (fun s κ1 => ptrK b 12 s (κ1)) s (fun qv0 v1 s => sandS (fun s κ1 => ldV v1 true 5 s (κ1)) s (fun qv2 v3 s => sandS (fun s κ1 => buildC P 42 [] s (κ1)) s (fun qv4 v5 s => sandS (fun s κ1 => binC v3 v5 42 .eql P s (κ1)) s (fun qv6 v7 s => sandS (fun s κ1 => ptrK b 17 s (κ1)) s (fun qv8 v9 s => sandS (fun s κ1 => ldV v9 true 7 s (κ1)) s (fun qv10 v11 s => sandS (fun s κ1 => call 43 [v11] s (κ1)) s (fun qv12 v13 s => sandS (fun s κ1 => ptrK b 27 s (κ1)) s (fun qv14 v15 s => sandS (fun s κ1 => ldV v15 true 2 s (κ1)) s (fun qv16 v17 s => sandS (fun s κ1 => buildC P 49 [] s (κ1)) s (fun qv18 v19 s => sandS (fun s κ1 => binC v17 v19 49 .eql P s (κ1)) s (fun qv20 v21 s => sandS (fun s κ1 => ptrK b 29 s (κ1)) s (fun qv22 v23 s => sandS (fun s κ1 => ldV v23 false 1 s (κ1)) s (fun qv24 v25 s => sandS (fun s κ1 => lenC v25 P 23 s (κ1)) s (fun qv26 v27 s => sandS (fun s κ1 => binC v27 (.i .i64 0) 3 .eql P s (κ1)) s (fun qv28 v29 s => sandS (fun s κ1 => ptrK b 30 s (κ1)) s (fun qv30 v31 s => sandS (fun s κ1 => ldV v31 true 32 s (κ1)) s (fun qv32 v33 s => sandS (fun s κ1 => buildC P 51 [] s (κ1)) s (fun qv34 v35 s => sandS (fun s κ1 => binC v33 v35 51 .eql P s (κ1)) s (fun qv36 v37 s => sandS (fun s κ1 => buildC P 136 [(9, v7), (10, v13), (14, v21), (15, v29), (16, v37)] s (κ1)) s (fun qv38 v39 s => sandS (fun s κ1 => allocC P 136 s (κ1)) s (fun qv40 v41 s => sandS (fun s κ1 => stA v41 v39 17 s (κ1)) s (fun qv42 v43 s => V.iff (dynA [] [qv0, qv2, qv4, qv6, qv8, qv10, qv12, qv14, qv16, qv18, qv20, qv22, qv24, qv26, qv28, qv30, qv32, qv34, qv36, qv38, qv40, qv42] [[], [false], [true, true], [false, false, false], [true, true, true, true], [true, true, true, true, false], [true, true, true, true, false, false], [true, true, true, true, true, true, true], [true, true, true, true, true, true, true, false], [true, true, true, true, true, true, true, true, true], [true, true, true, true, true, true, true, false, false, false], [true, true, true, true, true, true, true, true, true, true, true], [true, true, true, true, true, true, true, true, true, true, true, false], [true, true, true, true, true, true, true, true, true, true, true, false, false], [true, true, true, true, true, true, true, true, true, true, true, false, false, false], [true, true, true, true, true, true, true, true, true, true, true, true, true, true, true], [true, true, true, true, true, true, true, true, true, true, true, true, true, true, true, false], [true, true, true, true, true, true, true, true, true, true, true, true, true, true, true, true, true], [true, true, true, true, true, true, true, true, true, true, true, true, true, true, true, false, false, false], [false, false, false, false, false, false, false, false, false, false, false, false, false, false, false, false, false, false, false], [true, true, true, true, true, true, true, true, true, true, true, true, true, true, true, true, true, true, true, true], [false, false, false, false, false, false, false, false, false, false, false, false, false, false, false, false, false, false, false, false, false]]) (κ (X84.mk m a b c v41 f g h v1 v3 v5 v7 v9 v11 v13 v15 v17 v19 v21 v23 v25 v27 v29 v31 v33 v35 v37 v39 J K L M N O Q R S T U W Y Z a1 b1 c1 d1 f1 g1 h1 i1 l1 n1 o1 p1 r1 t1 u1 w1 y1 z1 A1 B1 C1 D1 E1 F1 G1 H1 I1 J1 K1 L1 M1 N1 O1 Q1 R1 S1 T1 U1 W1 Y1 Z1 a2 b2) s)))))))))))))))))))))))) x s κ
theorem r41x1ok : RgOk P true o41x1 T84 r41x1 := fun _ _ x _ _ => by cases x; kernel_rfl
def o41x2 : Array Oper := regO (pth [1, 1, 0, 0] c41v)
def r41x2 : RG X84 := fun call yl x s κ => X84.rec (motive := fun _ => MO X84) (fun m a b c d f g h i l n o p r t u w y z A B C D E F G H I J K L M N O Q R S T U W Y Z a1 b1 c1 d1 f1 g1 h1 i1 l1 n1 o1 p1 r1 t1 u1 w1 y1 z1 A1 B1 C1 D1 E1 F1 G1 H1 I1 J1 K1 L1 M1 N1 O1 Q1 R1 S1 T1 U1 W1 Y1 Z1 a2 b2 s κ => buildSliceC P 137 5 [(0, (.i .i64 9)), (1, (.i .i64 10)), (2, (.i .i64 14)), (3, (.i .i64 15)), (4, (.i .i64 16))] s (fun v0 s => lenC v0 P 137 s (fun v1 s => κ (X84.mk m a b c d f g h i l n o p r t u w y z A B C D E F G H I v0 v1 (.i .i64 0) M N O Q R S T U W Y Z a1 b1 c1 d1 f1 g1 h1 i1 l1 n1 o1 p1 r1 t1 u1 w1 y1 z1 A1 B1 C1 D1 E1 F1 G1 H1 I1 J1 K1 L1 M1 N1 O1 Q1 R1 S1 T1 U1 W1 Y1 Z1 a2 b2) s))) x s κ
theorem r41x2ok : RgOk P false o41x2 T84 r41x2 := fun _ _ x _ _ => by cases x; kernel_rfl
def o41x3 : Array Oper := regO (pth [1, 1, 0, 1, 0, 0, 0] c41v)
def r41x3 : RG X84 := fun call yl x s κ => X84.rec (motive := fun _ => MO X84) (fun m a b c d f g h i l n o p r t u w y z A B C D E F G H I J K L M N O Q R S T U W Y Z a1 b1 c1 d1 f1 g1 h1 i1 l1 n1 o1 p1 r1 t1 u1 w1 y1 z1 A1 B1 C1 D1 E1 F1 G1 H1 I1 J1 K1 L1 M1 N1 O1 Q1 R1 S1 T1 U1 W1 Y1 Z1 a2 b2 s κ => binC L K 3 .lss P s (fun v0 s => κ (X84.mk m a b c d f g h i l n o p r t u w y z A B C D E F G H I J K L v0 N O Q R S T U W Y Z a1 b1 c1 d1 f1 g1 h1 i1 l1 n1 o1 p1 r1 t1 u1 w1 y1 z1 A1 B1 C1 D1 E1 F1 G1 H1 I1 J1 K1 L1 M1 N1 O1 Q1 R1 S1 T1 U1 W1 Y1 Z1 a2 b2) s)) x s κ
theorem r41x3ok : RgOk P false o41x3 T84 r41x3 := fun _ _ x _ _ => by cases x; kernel_rfl
def o41x4 : Array Oper := regO (pth [1, 1, 0, 1, 0, 0, 1, 1, 0, 0, 0] c41v)
def r41x4 : RG X84 := fun call yl x s κ => X84.rec (motive := fun _ => MO X84) (fun m a b c d f g h i l n o p r t u w y z A B C D E F G H I J K L M N O Q R S T U W Y Z a1 b1 c1 d1 f1 g1 h1 i1 l1 n1 o1 p1 r1 t1 u1 w1 y1 z1 A1 B1 C1 D1 E1 F1 G1 H1 I1 J1 K1 L1 M1 N1 O1 Q1 R1 S1 T1 U1 W1 Y1 Z1 a2 b2 s κ => natK L fun j => iaS J j 1 s (fun v0 s => ldV v0 false 1 s (fun v1 s => κ (X84.mk m a b c d f v1 h i l n o p r t u w y z A B C D E F G H I J K L M v0 v1 Q R S T U W Y Z a1 b1 c1 d1 f1 g1 h1 i1 l1 n1 o1 p1 r1 t1 u1 w1 y1 z1 A1 B1 C1 D1 E1 F1 G1 H1 I1 J1 K1 L1 M1 N1 O1 Q1 R1 S1 T1 U1 W1 Y1 Z1 a2 b2) s))) x s κ
theorem r41x4ok : RgOk P false o41x4 T84 r41x4 := fun _ _ x _ _ => by cases x; kernel_rfl
def o41x5 : Array Oper := regO (pth [1, 1, 0, 1, 0, 0, 1, 1, 0, 0, 1, 0] c41v)
def r41x5 : RG X84 := fun call yl x s κ => X84.rec (motive := fun _ => MO X84) (fun m a b c d f g h i l n o p r t u w y z A B C D E F G H I J K L M N O Q R S T U W Y Z a1 b1 c1 d1 f1 g1 h1 i1 l1 n1 o1 p1 r1 t1 u1 w1 y1 z1 A1 B1 C1 D1 E1 F1 G1 H1 I1 J1 K1 L1 M1 N1 O1 Q1 R1 S1 T1 U1 W1 Y1 Z1 a2 b2 s κ => ptrK b 0 s (fun v0 s => ldV v0 false 1 s (fun v1 s => call 42 [v1, g] s (fun v2 s => notC v2 s (fun v3 s => bnk (fun κ1 => wantC v3 true (κ1 g s) (κ1 .e s)) (fun v4 s => bnk (fun κ1 => wantC v3 true (natK v4 fun j => iaP d 17 j 1 s (κ1)) (κ1 .e s)) (fun v5 s => bnk (fun κ1 => wantC v3 true (ldV v5 false 1 s (κ1)) (κ1 .e s)) (fun v6 s => bnk (fun κ1 => wantC v3 true (notC v6 s (κ1)) (κ1 .e s)) (fun v7 s => bnk (fun κ0 => condB v3 (κ0 v7 s) (κ0 (.b false) s)) (fun v8 s => κ (X84.mk m a b c d f g h i l n o p r t u w y z A B C D E F G H I J K L M N O v0 v1 g v2 v3 v3 v4 v5 v6 v7 v8 d1 f1 g1 h1 i1 l1 n1 o1 p1 r1 t1 u1 w1 y1 z1 A1 B1 C1 D1 E1 F1 G1 H1 I1 J1 K1 L1 M1 N1 O1 Q1 R1 S1 T1 U1 W1 Y1 Z1 a2 b2) s)))))))))) x s κ
theorem r41x5ok : RgOk P false o41x5 T84 r41x5 := fun _ _ x _ _ => by cases x; kernel_rfl
def o41x6 : Array Oper := regO (pth [1, 1, 0, 1, 0, 0, 1, 1, 0, 0, 1, 1, 0, 0] c41v)
def r41x6 : RG X84 := fun call yl x s κ => X84.rec (motive := fun _ => MO X84) (fun m a b c d f g h i l n o p r t u w y z A B C D E F G H I J K L M N O Q R S T U W Y Z a1 b1 c1 d1 f1 g1 h1 i1 l1 n1 o1 p1 r1 t1 u1 w1 y1 z1 A1 B1 C1 D1 E1 F1 G1 H1 I1 J1 K1 L1 M1 N1 O1 Q1 R1 S1 T1 U1 W1 Y1 Z1 a2 b2 s κ => κ (X84.mk m a b (.b false) d f g h i l n o p r t u w y z A B C D E F G H I J K L M N O Q R S T U W Y Z a1 b1 c1 d1 f1 g1 h1 i1 l1 n1 o1 p1 r1 t1 u1 w1 y1 z1 A1 B1 C1 D1 E1 F1 G1 H1 I1 J1 K1 L1 M1 N1 O1 Q1 R1 S1 T1 U1 W1 Y1 Z1 a2 b2) s) x s κ
theorem r41x6ok : RgOk P false o41x6 T84 r41x6 := fun _ _ x _ _ => by cases x; kernel_rfl
def o41x7 : Array Oper := regO (pth [1, 1, 0, 1, 0, 0, 1, 1, 1] c41v)
def r41x7 : RG X84 := fun call yl x s κ => X84.rec (motive := fun _ => MO X84) (fun m a b c d f g h i l n o p r t u w y z A B C D E F G H I J K L M N O Q R S T U W Y Z a1 b1 c1 d1 f1 g1 h1 i1 l1 n1 o1 p1 r1 t1 u1 w1 y1 z1 A1 B1 C1 D1 E1 F1 G1 H1 I1 J1 K1 L1 M1 N1 O1 Q1 R1 S1 T1 U1 W1 Y1 Z1 a2 b2 s κ => binC L (.i .i64 1) 3 .add P s (fun v0 s => κ (X84.mk m a b c d f g h i l n o p r t u w y z A B C D E F G H I J K v0 M N O Q R S T U W Y Z a1 b1 c1 v0 f1 g1 h1 i1 l1 n1 o1 p1 r1 t1 u1 w1 y1 z1 A1 B1 C1 D1 E1 F1 G1 H1 I1 J1 K1 L1 M1 N1 O1 Q1 R1 S1 T1 U1 W1 Y1 Z1 a2 b2) s)) x s κ
theorem r41x7ok : RgOk P false o41x7 T84 r41x7 := fun _ _ x _ _ => by cases x; kernel_rfl
def o41x8 : Array Oper := regO (pth [1, 1, 1, 0] c41v)
def r41x8 : RG X84 := fun call yl x s κ => X84.rec (motive := fun _ => MO X84) (fun m a b c d f g h i l n o p r t u w y z A B C D E F G H I J K L M N O Q R S T U W Y Z a1 b1 c1 d1 f1 g1 h1 i1 l1 n1 o1 p1 r1 t1 u1 w1 y1 z1 A1 B1 C1 D1 E1 F1 G1 H1 I1 J1 K1 L1 M1 N1 O1 Q1 R1 S1 T1 U1 W1 Y1 Z1 a2 b2 s κ => ptrK b 27 s (fun v0 s => ldV v0 true 2 s (fun v1 s => allocC P 49 s (fun v2 s => stA v2 v1 2 s (fun _ s => κ (X84.mk m a b c d f g v2 i l n o p r t u w y z A B C D E F G H I J K L M N O Q R S T U W Y Z a1 b1 c1 d1 v0 v1 h1 i1 l1 n1 o1 p1 r1 t1 u1 w1 y1 z1 A1 B1 C1 D1 E1 F1 G1 H1 I1 J1 K1 L1 M1 N1 O1 Q1 R1 S1 T1 U1 W1 Y1 Z1 a2 b2) s))))) x s κ
theorem r41x8ok : RgOk P false o41x8 T84 r41x8 := fun _ _ x _ _ => by cases x; kernel_rfl
def o41x9 : Array Oper := regO (pth [1, 1, 1, 1, 0, 0, 0, 0] c41v)
def r41x9 : RG X84 := fun call yl x s κ => X84.rec (motive := fun _ => MO X84) (fun m a b c d f g h i l n o p r t u w y z A B C D E F G H I J K L M N O Q R S T U W Y Z a1 b1 c1 d1 f1 g1 h1 i1 l1 n1 o1 p1 r1 t1 u1 w1 y1 z1 A1 B1 C1 D1 E1 F1 G1 H1 I1 J1 K1 L1 M1 N1 O1 Q1 R1 S1 T1 U1 W1 Y1 Z1 a2 b2 s κ => ptrK b 0 s (fun v0 s => ldV v0 false 1 s (fun v1 s => binC v1 (.i .i64 4) 3 .eql P s (fun v2 s => bnk (fun κ1 => wantC v2 true (ptrK b 12 s (κ1)) (κ1 .e s)) (fun v3 s => bnk (fun κ1 => wantC v2 true (ldV v3 true 5 s (κ1)) (κ1 .e s)) (fun v4 s => bnk (fun κ1 => wantC v2 true (call 74 [v4] s (κ1)) (κ1 .e s)) (fun v5 s => bnk (fun κ1 => wantC v2 true (notC v5 s (κ1)) (κ1 .e s)) (fun v6 s => bnk (fun κ0 => condB v2 (κ0 v6 s) (κ0 (.b false) s)) (fun v7 s => κ (X84.mk m a b c d f g h i l n o p r t u w y z A B C D E F G H I J K L M N O Q R S T U W Y Z a1 b1 c1 d1 f1 g1 v7 v0 v1 v2 v2 v3 v4 v5 v6 v7 y1 z1 A1 B1 C1 D1 E1 F1 G1 H1 I1 J1 K1 L1 M1 N1 O1 Q1 R1 S1 T1 U1 W1 Y1 Z1 a2 b2) s))))))))) x s κ
theorem r41x9ok : RgOk P false o41x9 T84 r41x9 := fun _ _ x _ _ => by cases x; kernel_rfl
def o41x10 : Array Oper := regO (pth [1, 1, 1, 1, 0, 0, 0, 1, 1] c41v)
def r41x10 : RG X84 := fun call yl x s κ => X84.rec (motive := fun _ => MO X84) (fun m a b c d f g h i l n o p r t u w y z A B C D E F G H I J K L M N O Q R S T U W Y Z a1 b1 c1 d1 f1 g1 h1 i1 l1 n1 o1 p1 r1 t1 u1 w1 y1 z1 A1 B1 C1 D1 E1 F1 G1 H1 I1 J1 K1 L1 M1 N1 O1 Q1 R1 S1 T1 U1 W1 Y1 Z1 a2 b2 s κ => ptrK b 0 s (fun v0 s => ldV v0 false 1 s (fun v1 s => binC v1 (.i .i64 6) 3 .eql P s (fun v2 s => bnk (fun κ1 => wantC v2 true (ldV b true 62 s (κ1)) (κ1 .e s)) (fun v3 s => bnk (fun κ1 => wantC v2 true (call 75 [v3] s (κ1)) (κ1 .e s)) (fun v4 s => bnk (fun κ1 => wantC v2 true (notC v4 s (κ1)) (κ1 .e s)) (fun v5 s => bnk (fun κ0 => condB v2 (κ0 v5 s) (κ0 (.b false) s)) (fun v6 s => κ (X84.mk m a b c d f g h i l n o p r t u w y z A B C D E F G H I J K L M N O Q R S T U W Y Z a1 b1 c1 d1 f1 g1 v6 i1 l1 n1 o1 p1 r1 t1 u1 w1 v0 v1 v2 v2 v3 v4 v5 v6 G1 H1 I1 J1 K1 L1 M1 N1 O1 Q1 R1 S1 T1 U1 W1 Y1 Z1 a2 b2) s)))))))) x s κ
theorem r41x10ok : RgOk P false o41x10 T84 r41x10 := fun _ _ x _ _ => by cases x; kernel_rfl
def o41x11 : Array Oper := regO (pth [1, 1, 1, 1, 0, 0, 1, 0, 0] c41v)
def r41x11 : RG X84 := fun call yl x s κ => X84.rec (motive := fun _ => MO X84) (fun m a b c d f g h i l n o p r t u w y z A B C D E F G H I J K L M N O Q R S T U W Y Z a1 b1 c1 d1 f1 g1 h1 i1 l1 n1 o1 p1 r1 t1 u1 w1 y1 z1 A1 B1 C1 D1 E1 F1 G1 H1 I1 J1 K1 L1 M1 N1 O1 Q1 R1 S1 T1 U1 W1 Y1 Z1 a2 b2 s κ => κ (X84.mk m a b (.b false) d f g h i l n o p r t u w y z A B C D E F G H I J K L M N O Q R S T U W Y Z a1 b1 c1 d1 f1 g1 h1 i1 l1 n1 o1 p1 r1 t1 u1 w1 y1 z1 A1 B1 C1 D1 E1 F1 G1 H1 I1 J1 K1 L1 M1 N1 O1 Q1 R1 S1 T1 U1 W1 Y1 Z1 a2 b2) s) x s κ
theorem r41x11ok : RgOk P false o41x11 T84 r41x11 := fun _ _ x _ _ => by cases x; kernel_rfl
def o41x12 : Array Oper := regO (pth [1, 1, 1, 1, 1, 0] c41v)
def r41x12 : RG X84 := fun call yl x s κ => X84.rec (motive := fun _ => MO X84) (fun m a b c d f g h i l n o p r t u w y z A B C D E F G H I J K L M N O Q R S T U W Y Z a1 b1 c1 d1 f1 g1 h1 i1 l1 n1 o1 p1 r1 t1 u1 w1 y1 z1 A1 B1 C1 D1 E1 F1 G1 H1 I1 J1 K1 L1 M1 N1 O1 Q1 R1 S1 T1 U1 W1 Y1 Z1 a2 b2 s κ => ptrK h 0 s (fun v0 s => ldV v0 false 1 s (fun v1 s => binC (.o (.i .i64 (.negSucc 2251799813685247))) v1 3 .leq P s (fun v2 s => bnk (fun κ1 => wantC v2 true (ptrK h 0 s (κ1)) (κ1 .e s)) (fun v3 s => bnk (fun κ1 => wantC v2 true (ldV v3 false 1 s (κ1)) (κ1 .e s)) (fun v4 s => bnk (fun κ1 => wantC v2 true (ptrK h 1 s (κ1)) (κ1 .e s)) (fun v5 s => bnk (fun κ1 => wantC v2 true (ldV v5 false 1 s (κ1)) (κ1 .e s)) (fun v6 s => bnk (fun κ1 => wantC v2 true (binC v4 v6 3 .leq P s (κ1)) (κ1 .e s)) (fun v7 s => bnk (fun κ0 => condB v2 (κ0 v7 s) (κ0 (.b false) s)) (fun v8 s => bnk (fun κ1 => wantC v8 true (ptrK h 1 s (κ1)) (κ1 .e s)) (fun v9 s => bnk (fun κ1 => wantC v8 true (ldV v9 false 1 s (κ1)) (κ1 .e s)) (fun v10 s => bnk (fun κ1 => wantC v8 true (binC v10 (.i .i64 2251799813685248) 3 .leq P s (κ1)) (κ1 .e s)) (fun v11 s => bnk (fun κ0 => condB v8 (κ0 v11 s) (κ0 (.b false) s)) (fun v12 s => bnk (fun κ1 => wantC v12 true (ldV b true 62 s (κ1)) (κ1 .e s)) (fun v13 s => bnk (fun κ1 => wantC v12 true (call 76 [v13] s (κ1)) (κ1 .e s)) (fun v14 s => bnk (fun κ0 => condB v12 (κ0 v14 s) (κ0 (.b false) s)) (fun v15 s => κ (X84.mk m a b v15 d f g h i l n o p r t u w y z A B C D E F G H I J K L M N O Q R S T U W Y Z a1 b1 c1 d1 f1 g1 h1 i1 l1 n1 o1 p1 r1 t1 u1 w1 y1 z1 A1 B1 C1 D1 E1 F1 v0 v1 v2 v2 v3 v4 v5 v6 v7 v8 v8 v9 v10 v11 v12 v12 v13 v14 v15) s))))))))))))))))) x s κ
theorem r41x12ok : RgOk P false o41x12 T84 r41x12 := fun _ _ x _ _ => by cases x; kernel_rfl
def S41 : SF X84 := (seqS (regS P t3.fq r41x0) (seqS (regS P t3.fq r41x1) (seqS (seqS (regS P t3.fq r41x2) (blkS 0 (loopS (seqS (regS P t3.fq r41x3) (seqS (condS (fun x => X84.rec (motive := fun _ => FV) (fun _ _ _ _ _ _ _ _ _ _ _ _ _ _ _ _ _ _ _ _ _ _ _ _ _ _ _ _ _ _ _ z _ _ _ _ _ _ _ _ _ _ _ _ _ _ _ _ _ _ _ _ _ _ _ _ _ _ _ _ _ _ _ _ _ _ _ _ _ _ _ _ _ _ _ _ _ _ _ _ _ _ _ _ _ => z) x) skipS (exitS 0)) (seqS (blkS 1 (seqS (regS P t3.fq r41x4) (seqS (regS P t3.fq r41x5) (condS (fun x => X84.rec (motive := fun _ => FV) (fun _ _ _ _ _ _ _ _ _ _ _ _ _ _ _ _ _ _ _ _ _ _ _ _ _ _ _ _ _ _ _ _ _ _ _ _ _ _ _ _ _ _ _ _ z _ _ _ _ _ _ _ _ _ _ _ _ _ _ _ _ _ _ _ _ _ _ _ _ _ _ _ _ _ _ _ _ _ _ _ _ _ _ _ _ => z) x) (seqS (regS P t3.fq r41x6) retS) skipS)))) (regS P t3.fq r41x7))))))) (seqS (regS P t3.fq r41x8) (seqS (blkS 2 (seqS (seqS (regS P t3.fq r41x9) (condS (fun x => X84.rec (motive := fun _ => FV) (fun _ _ _ _ _ _ _ _ _ _ _ _ _ _ _ _ _ _ _ _ _ _ _ _ _ _ _ _ _ _ _ _ _ _ _ _ _ _ _ _ _ _ _ _ _ _ _ _ z _ _ _ _ _ _ _ _ _ _ _ _ _ _ _ _ _ _ _ _ _ _ _ _ _ _ _ _ _ _ _ _ _ _ _ _ => z) x) skipS (regS P t3.fq r41x10))) (condS (fun x => X84.rec (motive := fun _ => FV) (fun _ _ _ _ _ _ _ _ _ _ _ _ _ _ _ _ _ _ _ _ _ _ _ _ _ _ _ _ _ _ _ _ _ _ _ _ _ _ _ _ _ _ _ _ _ _ _ _ z _ _ _ _ _ _ _ _ _ _ _ _ _ _ _ _ _ _ _ _ _ _ _ _ _ _ _ _ _ _ _ _ _ _ _ _ => z) x) (seqS (regS P t3.fq r41x11) retS) skipS))) (seqS (regS P t3.fq r41x12) retS))))))
theorem S41ok : Sh P t3.fq T84 c41v S41 := by
  have e : c41v = (.seq (.region 0 o41x0 false) (.seq (.region 1 o41x1 true) (.seq (.seq (.region 2 o41x2 false) (.block 0 (.loop (.seq (.region 3 o41x3 false) (.seq (.cond (.tmp 30) .skip (.exit 0)) (.seq (.block 1 (.seq (.region 4 o41x4 false) (.seq (.region 5 o41x5 false) (.cond (.tmp 43) (.seq (.region 6 o41x6 false) .ret) .skip)))) (.region 7 o41x7 false))))))) (.seq (.region 8 o41x8 false) (.seq (.block 2 (.seq (.seq (.region 9 o41x9 false) (.cond (.tmp 47) .skip (.region 10 o41x10 false))) (.cond (.tmp 47) (.seq (.region 11 o41x11 false) .ret) .skip))) (.seq (.region 12 o41x12 false) .ret)))))) := by kernel_rfl
  rw [e]
  exact (sh_seq (sh_reg r41x0ok) (sh_seq (sh_reg r41x1ok) (sh_seq (sh_seq (sh_reg r41x2ok) (sh_blk 0 (sh_loop (sh_seq (sh_reg r41x3ok) (sh_seq (sh_cond (fun x => by cases x; rfl) sh_skip (sh_exit 0)) (sh_seq (sh_blk 1 (sh_seq (sh_reg r41x4ok) (sh_seq (sh_reg r41x5ok) (sh_cond (fun x => by cases x; rfl) (sh_seq (sh_reg r41x6ok) sh_ret) sh_skip)))) (sh_reg r41x7ok))))))) (sh_seq (sh_reg r41x8ok) (sh_seq (sh_blk 2 (sh_seq (sh_seq (sh_reg r41x9ok) (sh_cond (fun x => by cases x; rfl) sh_skip (sh_reg r41x10ok))) (sh_cond (fun x => by cases x; rfl) (sh_seq (sh_reg r41x11ok) sh_ret) sh_skip))) (sh_seq (sh_reg r41x12ok) sh_ret))))))
def A41 : List FV → Option X84 := fun l => match l with
  | [a] => some (X84.mk [] a .e .e .e .e .e .e .e .e .e .e .e .e .e .e .e .e .e .e .e .e .e .e .e .e .e .e .e .e .e .e .e .e .e .e .e .e .e .e .e .e .e .e .e .e .e .e .e .e .e .e .e .e .e .e .e .e .e .e .e .e .e .e .e .e .e .e .e .e .e .e .e .e .e .e .e .e .e .e .e .e .e .e .e)
  | _ => none
def L41 : LQ := shal P T84 S41 [.tmp 2] 4000 A41
def E41 : LA := evCall P t3.fa 4000 41
theorem G41 : Good P 41 L41 E41 := good_shal all3 (by kernel_rfl) (show FT P 41 = some (c41v, 84, [.tmp 2]) by kernel_rfl) S41ok (fun l x h => by
    unfold A41 at h
    split at h
    · cases h; exact ⟨by kernel_rfl, by kernel_rfl⟩
    · cases h) 4000
inductive X31 where
  | mk (m : List Nat) (a b c d f g h i l n o p r t u w y z A B C D E F G H I J K L M : FV)
def T31 (x : X31) : FF := X31.rec (motive := fun _ => FF) (fun m a b c d f g h i l n o p r t u w y z A B C D E F G H I J K L M => ⟨(.n a (.n b (.n g (.n D .e .e .e .e) .e .e .e) (.n n (.n H .e .e .e .e) .e .e .e) (.n t (.n L .e .e .e .e) .e .e .e) (.n z .e .e .e .e)) (.n c (.n h (.n E .e .e .e .e) .e .e .e) (.n o (.n I .e .e .e .e) .e .e .e) (.n u (.n M .e .e .e .e) .e .e .e) (.n A .e .e .e .e)) (.n d (.n i (.n F .e .e .e .e) .e .e .e) (.n p (.n J .e .e .e .e) .e .e .e) (.n w .e .e .e .e) (.n B .e .e .e .e)) (.n f (.n l (.n G .e .e .e .e) .e .e .e) (.n r (.n K .e .e .e .e) .e .e .e) (.n y .e .e .e .e) (.n C .e .e .e .e))), 31, m⟩) x
def c53v : Code := bodyOf P 53
def o53x0 : Array Oper := regO (pth [0] c53v)
def r53x0 : RG X31 := fun call yl x s κ => X31.rec (motive := fun _ => MO X31) (fun m a b c d f g h i l n o p r t u w y z A B C D E F G H I J K L M s κ => bxV a 53 s (fun v0 s => bxV b 53 s (fun v1 s => κ (X31.mk m a b v0 v1 (.b false) g h i l n o p r t u w y z A B C D E F G H I J K L M) s))) x s κ
theorem r53x0ok : RgOk P false o53x0 T31 r53x0 := fun _ _ x _ _ => by cases x; kernel_rfl
def o53x1 : Array Oper := regO (pth [1, 0, 0] c53v)
def r53x1 : RG X31 := fun call yl x s κ => X31.rec (motive := fun _ => MO X31) (fun m a b c d f g h i l n o p r t u w y z A B C D E F G H I J K L M s κ => ptrK d 0 s (fun v0 s => ldV v0 false 1 s (fun v1 s => binC v1 (.i .i64 9) 3 .eql P s (fun v2 s => bnk (fun κ1 => wantC v2 false (ptrK d 0 s (κ1)) (κ1 .e s)) (fun v3 s => bnk (fun κ1 => wantC v2 false (ldV v3 false 1 s (κ1)) (κ1 .e s)) (fun v4 s => bnk (fun κ1 => wantC v2 false (binC v4 (.i .i64 10) 3 .eql P s (κ1)) (κ1 .e s)) (fun v5 s => bnk (fun κ0 => condB v2 (κ0 (.b true) s) (κ0 v5 s)) (fun v6 s => κ (X31.mk m a b c d f v0 v1 v2 v2 v3 v4 v5 v6 t u w y z A B C D E F G H I J K L M) s)))))))) x s κ
theorem r53x1ok : RgOk P false o53x1 T31 r53x1 := fun _ _ x _ _ => by cases x; kernel_rfl
def o53x2 : Array Oper := regO (pth [1, 0, 1, 0, 0] c53v)
def r53x2 : RG X31 := fun call yl x s κ => X31.rec (motive := fun _ => MO X31) (fun m a b c d f g h i l n o p r t u w y z A B C D E F G H I J K L M s κ => ptrK c 0 s (fun v0 s => ldV v0 false 1 s (fun v1 s => ptrK d 0 s (fun v2 s => ldV v2 false 1 s (fun v3 s => binC v1 v3 3 .eql P s (fun v4 s => bnk (fun κ1 => wantC v4 true (ptrK c 1 s (κ1)) (κ1 .e s)) (fun v5 s => bnk (fun κ1 => wantC v4 true (ldV v5 false 1 s (κ1)) (κ1 .e s)) (fun v6 s => bnk (fun κ1 => wantC v4 true (ptrK d 1 s (κ1)) (κ1 .e s)) (fun v7 s => bnk (fun κ1 => wantC v4 true (ldV v7 false 1 s (κ1)) (κ1 .e s)) (fun v8 s => bnk (fun κ1 => wantC v4 true (binC v6 v8 3 .eql P s (κ1)) (κ1 .e s)) (fun v9 s => bnk (fun κ0 => condB v4 (κ0 v9 s) (κ0 (.b false) s)) (fun v10 s => κ (X31.mk m a b c d v10 g h i l n o p r v0 v1 v2 v3 v4 v4 v5 v6 v7 v8 v9 v10 H I J K L M) s)))))))))))) x s κ
theorem r53x2ok : RgOk P false o53x2 T31 r53x2 := fun _ _ x _ _ => by cases x; kernel_rfl
def o53x3 : Array Oper := regO (pth [1, 1, 0] c53v)
def r53x3 : RG X31 := fun call yl x s κ => X31.rec (motive := fun _ => MO X31) (fun m a b c d f g h i l n o p r t u w y z A B C D E F G H I J K L M s κ => ptrK d 2 s (fun v0 s => ldV v0 false 1 s (fun v1 s => ptrK c 2 s (fun v2 s => stA v2 v1 1 s (fun _ s => κ (X31.mk m a b c d f g h i l n o p r t u w y z A B C D E F G v0 v1 v2 K L M) s))))) x s κ
theorem r53x3ok : RgOk P false o53x3 T31 r53x3 := fun _ _ x _ _ => by cases x; kernel_rfl
def o53x4 : Array Oper := regO (pth [1, 1, 1, 0] c53v)
def r53x4 : RG X31 := fun call yl x s κ => X31.rec (motive := fun _ => MO X31) (fun m a b c d f g h i l n o p r t u w y z A B C D E F G H I J K L M s κ => ldV c true 62 s (fun v0 s => ldV d true 62 s (fun v1 s => call 82 [v0, v1] s (fun v2 s => κ (X31.mk m a b c d v2 g h i l n o p r t u w y z A B C D E F G H I J v0 v1 v2) s)))) x s κ
theorem r53x4ok : RgOk P false o53x4 T31 r53x4 := fun _ _ x _ _ => by cases x; kernel_rfl
def S53 : SF X31 := (seqS (regS P t3.fq r53x0) (seqS (seqS (regS P t3.fq r53x1) (condS (fun x => X31.rec (motive := fun _ => FV) (fun _ _ _ _ _ _ _ _ _ _ _ _ _ z _ _ _ _ _ _ _ _ _ _ _ _ _ _ _ _ _ _ => z) x) (seqS (regS P t3.fq r53x2) retS) skipS)) (seqS (regS P t3.fq r53x3) (seqS (regS P t3.fq r53x4) retS))))
theorem S53ok : Sh P t3.fq T31 c53v S53 := by
  have e : c53v = (.seq (.region 0 o53x0 false) (.seq (.seq (.region 1 o53x1 false) (.cond (.tmp 12) (.seq (.region 2 o53x2 false) .ret) .skip)) (.seq (.region 3 o53x3 false) (.seq (.region 4 o53x4 false) .ret)))) := by kernel_rfl
  rw [e]
  exact (sh_seq (sh_reg r53x0ok) (sh_seq (sh_seq (sh_reg r53x1ok) (sh_cond (fun x => by cases x; rfl) (sh_seq (sh_reg r53x2ok) sh_ret) sh_skip)) (sh_seq (sh_reg r53x3ok) (sh_seq (sh_reg r53x4ok) sh_ret))))
def A53 : List FV → Option X31 := fun l => match l with
  | [a, b] => some (X31.mk [] a b .e .e .e .e .e .e .e .e .e .e .e .e .e .e .e .e .e .e .e .e .e .e .e .e .e .e .e .e .e)
  | _ => none
def L53 : LQ := shal P T31 S53 [.tmp 4] 4000 A53
def E53 : LA := evCall P t3.fa 4000 53
theorem G53 : Good P 53 L53 E53 := good_shal all3 (by kernel_rfl) (show FT P 53 = some (c53v, 31, [.tmp 4]) by kernel_rfl) S53ok (fun l x h => by
    unfold A53 at h
    split at h
    · cases h; exact ⟨by kernel_rfl, by kernel_rfl⟩
    · cases h) 4000
def c69v : Code := bodyOf P 69
def o69x0 : Array Oper := regO (pth [0] c69v)
def r69x0 : RG X35 := fun call yl x s κ => X35.rec (motive := fun _ => MO X35) (fun m a b c d f g h i l n o p r t u w y z A B C D E F G H I J K L M N O Q R s κ => allocC P 51 s (fun v0 s => κ (X35.mk m a b v0 d f g h i l n o p r t u w y z A B C D E F G H I J K L M N O Q R) s)) x s κ
theorem r69x0ok : RgOk P false o69x0 T35 r69x0 := fun _ _ x _ _ => by cases x; kernel_rfl
def o69x1 : Array Oper := regO (pth [1, 0] c69v)
def r69x1 : RG X35 := fun call yl x s κ => X35.rec (motive := fun _ => MO X35) (fun m a b c d f g h i l n o p r t u w y z A B C D E F G H I J K L M N O Q R s κ => κ (X35.mk m a b c (.o (.sl none 0 0)) f g h i l n o p r t u w y z A B C D E F G H I J K L M N O Q R) s) x s κ
theorem r69x1ok : RgOk P false o69x1 T35 r69x1 := fun _ _ x _ _ => by cases x; kernel_rfl
def o69x2 : Array Oper := regO (pth [1, 1, 0, 0] c69v)
def r69x2 : RG X35 := fun call yl x s κ => X35.rec (motive := fun _ => MO X35) (fun m a b c d f g h i l n o p r t u w y z A B C D E F G H I J K L M N O Q R s κ => lenC a P 125 s (fun v0 s => κ (X35.mk m a b c d f g h i a v0 (.i .i64 0) p r t u w y z A B C D E F G H I J K L M N O Q R) s)) x s κ
theorem r69x2ok : RgOk P false o69x2 T35 r69x2 := fun _ _ x _ _ => by cases x; kernel_rfl
def o69x3 : Array Oper := regO (pth [1, 1, 0, 1, 0, 0, 0] c69v)
def r69x3 : RG X35 := fun call yl x s κ => X35.rec (motive := fun _ => MO X35) (fun m a b c d f g h i l n o p r t u w y z A B C D E F G H I J K L M N O Q R s κ => binC o n 3 .lss P s (fun v0 s => κ (X35.mk m a b c d f g h i l n o v0 r t u w y z A B C D E F G H I J K L M N O Q R) s)) x s κ
theorem r69x3ok : RgOk P false o69x3 T35 r69x3 := fun _ _ x _ _ => by cases x; kernel_rfl
def o69x4 : Array Oper := regO (pth [1, 1, 0, 1, 0, 0, 1, 1, 0, 0, 0] c69v)
def r69x4 : RG X35 := fun call yl x s κ => X35.rec (motive := fun _ => MO X35) (fun m a b c d f g h i l n o p r t u w y z A B C D E F G H I J K L M N O Q R s κ => natK o fun j => iaS l j 1 s (fun v0 s => ldV v0 false 1 s (fun v1 s => κ (X35.mk m a b c d f v1 h i l n o p v0 v1 u w y z A B C D E F G H I J K L M N O Q R) s))) x s κ
theorem r69x4ok : RgOk P false o69x4 T35 r69x4 := fun _ _ x _ _ => by cases x; kernel_rfl
def o69x5 : Array Oper := regO (pth [1, 1, 0, 1, 0, 0, 1, 1, 0, 0, 1, 0] c69v)
def r69x5 : RG X35 := fun call yl x s κ => X35.rec (motive := fun _ => MO X35) (fun m a b c d f g h i l n o p r t u w y z A B C D E F G H I J K L M N O Q R s κ => allocC P 158 s (fun v0 s => κ (X35.mk m a b c d f g v0 i l n o p r t u w y z A B C D E F G H I J K L M N O Q R) s)) x s κ
theorem r69x5ok : RgOk P false o69x5 T35 r69x5 := fun _ _ x _ _ => by cases x; kernel_rfl
def o69x6 : Array Oper := regO (pth [1, 1, 0, 1, 0, 0, 1, 1, 0, 0, 1, 1, 0, 0] c69v)
def r69x6 : RG X35 := fun call yl x s κ => X35.rec (motive := fun _ => MO X35) (fun m a b c d f g h i l n o p r t u w y z A B C D E F G H I J K L M N O Q R s κ => κ (X35.mk m a b c d f g h i l n o p r t (.i .i64 0) w y z A B C D E F G H I J K L M N O Q R) s) x s κ
theorem r69x6ok : RgOk P false o69x6 T35 r69x6 := fun _ _ x _ _ => by cases x; kernel_rfl
def o69x7 : Array Oper := regO (pth [1, 1, 0, 1, 0, 0, 1, 1, 0, 0, 1, 1, 0, 1, 0, 0, 0] c69v)
def r69x7 : RG X35 := fun call yl x s κ => X35.rec (motive := fun _ => MO X35) (fun m a b c d f g h i l n o p r t u w y z A B C D E F G H I J K L M N O Q R s κ => binC u (.i .i64 8) 3 .lss P s (fun v0 s => κ (X35.mk m a b c d f g h i l n o p r t u v0 y z A B C D E F G H I J K L M N O Q R) s)) x s κ
theorem r69x7ok : RgOk P false o69x7 T35 r69x7 := fun _ _ x _ _ => by cases x; kernel_rfl
def o69x8 : Array Oper := regO (pth [1, 1, 0, 1, 0, 0, 1, 1, 0, 0, 1, 1, 0, 1, 0, 0, 1, 1, 0, 0, 0] c69v)
def r69x8 : RG X35 := fun call yl x s κ => X35.rec (motive := fun _ => MO X35) (fun m a b c d f g h i l n o p r t u w y z A B C D E F G H I J K L M N O Q R s κ => κ (X35.mk m a b c d f g h u l n o p r t u w u z A B C D E F G H I J K L M N O Q R) s) x s κ
theorem r69x8ok : RgOk P false o69x8 T35 r69x8 := fun _ _ x _ _ => by cases x; kernel_rfl
def o69x9 : Array Oper := regO (pth [1, 1, 0, 1, 0, 0, 1, 1, 0, 0, 1, 1, 0, 1, 0, 0, 1, 1, 0, 0, 1] c69v)
def r69x9 : RG X35 := fun call yl x s κ => X35.rec (motive := fun _ => MO X35) (fun m a b c d f g h i l n o p r t u w y z A B C D E F G H I J K L M N O Q R s κ => lenC g P 57 s (fun v0 s => cvV v0 .u64 s (fun v1 s => binC (.i .i64 8) i 3 .mul P s (fun v2 s => binC v1 v2 159 .shr P s (fun v3 s => cvV v3 .u8 s (fun v4 s => natK i fun j => iaP h 8 j 1 s (fun v5 s => stA v5 v4 1 s (fun _ s => κ (X35.mk m a b c d f g h i l n o p r t u w y i g v0 v1 i v2 v3 v4 v5 I J K L M N O Q R) s)))))))) x s κ
theorem r69x9ok : RgOk P false o69x9 T35 r69x9 := fun _ _ x _ _ => by cases x; kernel_rfl
def o69x10 : Array Oper := regO (pth [1, 1, 0, 1, 0, 0, 1, 1, 0, 0, 1, 1, 0, 1, 0, 0, 1, 1, 1] c69v)
def r69x10 : RG X35 := fun call yl x s κ => X35.rec (motive := fun _ => MO X35) (fun m a b c d f g h i l n o p r t u w y z A B C D E F G H I J K L M N O Q R s κ => binC u (.i .i64 1) 3 .add P s (fun v0 s => κ (X35.mk m a b c d f g h i l n o p r t v0 w y z A B C D E F G H v0 J K L M N O Q R) s)) x s κ
theorem r69x10ok : RgOk P false o69x10 T35 r69x10 := fun _ _ x _ _ => by cases x; kernel_rfl
def o69x11 : Array Oper := regO (pth [1, 1, 0, 1, 0, 0, 1, 1, 0, 0, 1, 1, 1] c69v)
def r69x11 : RG X35 := fun call yl x s κ => X35.rec (motive := fun _ => MO X35) (fun m a b c d f g h i l n o p r t u w y z A B C D E F G H I J K L M N O Q R s κ => sliceC P 158 h none none none s (fun v0 s => buildSliceC P 125 2 [(0, v0), (1, g)] s (fun v1 s => appendC P 125 125 d v1 s (fun v2 s => κ (X35.mk m a b c v2 f g h i l n o p r t u w y z A B C D E F G H I d v0 g v1 v2 O Q R) s)))) x s κ
theorem r69x11ok : RgOk P false o69x11 T35 r69x11 := fun _ _ x _ _ => by cases x; kernel_rfl
def o69x12 : Array Oper := regO (pth [1, 1, 0, 1, 0, 0, 1, 1, 1] c69v)
def r69x12 : RG X35 := fun call yl x s κ => X35.rec (motive := fun _ => MO X35) (fun m a b c d f g h i l n o p r t u w y z A B C D E F G H I J K L M N O Q R s κ => binC o (.i .i64 1) 3 .add P s (fun v0 s => κ (X35.mk m a b c d f g h i l n v0 p r t u w y z A B C D E F G H I J K L M N v0 Q R) s)) x s κ
theorem r69x12ok : RgOk P false o69x12 T35 r69x12 := fun _ _ x _ _ => by cases x; kernel_rfl
def o69x13 : Array Oper := regO (pth [1, 1, 1, 0] c69v)
def r69x13 : RG X35 := fun call yl x s κ => X35.rec (motive := fun _ => MO X35) (fun m a b c d f g h i l n o p r t u w y z A B C D E F G H I J K L M N O Q R s κ => call 92 [d] s (fun v0 s => stA c v0 32 s (fun _ s => κ (X35.mk m a b c d f g h i l n o p r t u w y z A B C D E F G H I J K L M N O d v0) s))) x s κ
theorem r69x13ok : RgOk P false o69x13 T35 r69x13 := fun _ _ x _ _ => by cases x; kernel_rfl
def S69 : SF X35 := (seqS (regS P t3.fq r69x0) (seqS (regS P t3.fq r69x1) (seqS (seqS (regS P t3.fq r69x2) (blkS 0 (loopS (seqS (regS P t3.fq r69x3) (seqS (condS (fun x => X35.rec (motive := fun _ => FV) (fun _ _ _ _ _ _ _ _ _ _ _ _ z _ _ _ _ _ _ _ _ _ _ _ _ _ _ _ _ _ _ _ _ _ _ _ => z) x) skipS (exitS 0)) (seqS (blkS 1 (seqS (regS P t3.fq r69x4) (seqS (regS P t3.fq r69x5) (seqS (seqS (regS P t3.fq r69x6) (blkS 2 (loopS (seqS (regS P t3.fq r69x7) (seqS (condS (fun x => X35.rec (motive := fun _ => FV) (fun _ _ _ _ _ _ _ _ _ _ _ _ _ _ _ _ z _ _ _ _ _ _ _ _ _ _ _ _ _ _ _ _ _ _ _ => z) x) skipS (exitS 2)) (seqS (blkS 3 (seqS (regS P t3.fq r69x8) (regS P t3.fq r69x9))) (regS P t3.fq r69x10))))))) (regS P t3.fq r69x11))))) (regS P t3.fq r69x12))))))) (seqS (regS P t3.fq r69x13) retS))))
theorem S69ok : Sh P t3.fq T35 c69v S69 := by
  have e : c69v = (.seq (.region 0 o69x0 false) (.seq (.region 1 o69x1 false) (.seq (.seq (.region 2 o69x2 false) (.block 0 (.loop (.seq (.region 3 o69x3 false) (.seq (.cond (.tmp 11) .skip (.exit 0)) (.seq (.block 1 (.seq (.region 4 o69x4 false) (.seq (.region 5 o69x5 false) (.seq (.seq (.region 6 o69x6 false) (.block 2 (.loop (.seq (.region 7 o69x7 false) (.seq (.cond (.tmp 15) .skip (.exit 2)) (.seq (.block 3 (.seq (.region 8 o69x8 false) (.region 9 o69x9 false))) (.region 10 o69x10 false))))))) (.region 11 o69x11 false))))) (.region 12 o69x12 false))))))) (.seq (.region 13 o69x13 false) .ret)))) := by kernel_rfl
  rw [e]
  exact (sh_seq (sh_reg r69x0ok) (sh_seq (sh_reg r69x1ok) (sh_seq (sh_seq (sh_reg r69x2ok) (sh_blk 0 (sh_loop (sh_seq (sh_reg r69x3ok) (sh_seq (sh_cond (fun x => by cases x; rfl) sh_skip (sh_exit 0)) (sh_seq (sh_blk 1 (sh_seq (sh_reg r69x4ok) (sh_seq (sh_reg r69x5ok) (sh_seq (sh_seq (sh_reg r69x6ok) (sh_blk 2 (sh_loop (sh_seq (sh_reg r69x7ok) (sh_seq (sh_cond (fun x => by cases x; rfl) sh_skip (sh_exit 2)) (sh_seq (sh_blk 3 (sh_seq (sh_reg r69x8ok) (sh_reg r69x9ok))) (sh_reg r69x10ok))))))) (sh_reg r69x11ok))))) (sh_reg r69x12ok))))))) (sh_seq (sh_reg r69x13ok) sh_ret))))
def A69 : List FV → Option X35 := fun l => match l with
  | [a] => some (X35.mk [] a .e .e .e .e .e .e .e .e .e .e .e .e .e .e .e .e .e .e .e .e .e .e .e .e .e .e .e .e .e .e .e .e .e .e)
  | _ => none
def L69 : LQ := shal P T35 S69 [.cell 2 51] 4000 A69
def E69 : LA := evCall P t3.fa 4000 69
theorem G69 : Good P 69 L69 E69 := good_shal all3 (by kernel_rfl) (show FT P 69 = some (c69v, 35, [.cell 2 51]) by kernel_rfl) S69ok (fun l x h => by
    unfold A69 at h
    split at h
    · cases h; exact ⟨by kernel_rfl, by kernel_rfl⟩
    · cases h) 4000
def c122v : Code := bodyOf P 122
def o122x0 : Array Oper := regO (pth [0] c122v)
def r122x0 : RG X36 := fun call yl x s κ => X36.rec (motive := fun _ => MO X36) (fun m a b c d f g h i l n o p r t u w y z A B C D E F G H I J K L M N O Q R S s κ => call 118 [a, (.i .i64 4)] s (fun v0 s => κ (X36.mk m a b v0 d f a v0 i l n o p r t u w y z A B C D E F G H I J K L M N O Q R S) s)) x s κ
theorem r122x0ok : RgOk P false o122x0 T36 r122x0 := fun _ _ x _ _ => by cases x; kernel_rfl
def o122x1 : Array Oper := regO (pth [1, 0] c122v)
def r122x1 : RG X36 := fun call yl x s κ => X36.rec (motive := fun _ => MO X36) (fun m a b c d f g h i l n o p r t u w y z A B C D E F G H I J K L M N O Q R S s κ => nilC a s (fun v0 s => ptrK v0 1 s (fun v1 s => ldV v1 false 1 s (fun v2 s => callV v2 [c] call yl s (fun v3 s => lenC v3 P 57 s (fun v4 s => κ (X36.mk m a b c d f g h a v0 v1 v2 c v3 v4 (.i .i64 0) w y z A B C D E F G H I J K L M N O Q R S) s)))))) x s κ
theorem r122x1ok : RgOk P false o122x1 T36 r122x1 := fun _ _ x _ _ => by cases x; kernel_rfl
def o122x2 : Array Oper := regO (pth [1, 1, 0, 0, 0] c122v)
def r122x2 : RG X36 := fun call yl x s κ => X36.rec (motive := fun _ => MO X36) (fun m a b c d f g h i l n o p r t u w y z A B C D E F G H I J K L M N O Q R S s κ => binC u t 3 .lss P s (fun v0 s => κ (X36.mk m a b c d f g h i l n o p r t u v0 y z A B C D E F G H I J K L M N O Q R S) s)) x s κ
theorem r122x2ok : RgOk P false o122x2 T36 r122x2 := fun _ _ x _ _ => by cases x; kernel_rfl
def o122x3 : Array Oper := regO (pth [1, 1, 0, 0, 1, 1, 0, 0, 0] c122v)
def r122x3 : RG X36 := fun call yl x s κ => X36.rec (motive := fun _ => MO X36) (fun m a b c d f g h i l n o p r t u w y z A B C D E F G H I J K L M N O Q R S s κ => natK u fun j => iaS r j 1 s (fun v0 s => ldV v0 false 1 s (fun v1 s => κ (X36.mk m a b c d v1 g h i l n o p r t u w v0 v1 A B C D E F G H I J K L M N O Q R S) s))) x s κ
theorem r122x3ok : RgOk P false o122x3 T36 r122x3 := fun _ _ x _ _ => by cases x; kernel_rfl
def o122x4 : Array Oper := regO (pth [1, 1, 0, 0, 1, 1, 0, 0, 1] c122v)
def r122x4 : RG X36 := fun call yl x s κ => X36.rec (motive := fun _ => MO X36) (fun m a b c d f g h i l n o p r t u w y z A B C D E F G H I J K L M N O Q R S s κ => (fun qv0 => sandS (fun s κ1 => nilC a s (κ1)) s (fun qv1 v2 s => sandS (fun s κ1 => ptrK v2 0 s (κ1)) s (fun qv3 v4 s => sandS (fun s κ1 => ldV v4 false 1 s (κ1)) s (fun qv5 v6 s => (fun qv7 => sandS (fun s κ1 => nilC a s (κ1)) s (fun qv8 v9 s => sandS (fun s κ1 => ptrK v9 0 s (κ1)) s (fun qv10 v11 s => sandS (fun s κ1 => ldV v11 false 1 s (κ1)) s (fun qv12 v13 s => sandS (fun s κ1 => nilC v13 s (κ1)) s (fun qv14 v15 s => sandS (fun s κ1 => ptrK v15 29 s (κ1)) s (fun qv16 v17 s => sandS (fun s κ1 => ldV v17 false 1 s (κ1)) s (fun qv18 v19 s => (fun qv20 => sandS (fun s κ1 => cvV f .i64 s (κ1)) s (fun qv21 v22 s => sandS (fun s κ1 => buildSliceC P 23 1 [(0, v22)] s (κ1)) s (fun qv23 v24 s => sandS (fun s κ1 => appendC P 23 23 v19 v24 s (κ1)) s (fun qv25 v26 s => sandS (fun s κ1 => nilC v6 s (κ1)) s (fun qv27 v28 s => sandS (fun s κ1 => ptrK v28 29 s (κ1)) s (fun qv29 v30 s => sandS (fun s κ1 => stA v30 v26 1 s (κ1)) s (fun qv31 v32 s => V.iff (dynA [] [qv0, qv1, qv3, qv5, qv7, qv8, qv10, qv12, qv14, qv16, qv18, qv20, qv21, qv23, qv25, qv27, qv29, qv31] [[], [false], [false, false], [false, false, false], [true, true, true, true], [true, true, true, true, false], [true, true, true, true, false, false], [true, true, true, true, false, false, false], [true, true, true, true, false, false, false, false], [true, true, true, true, false, false, false, false, false], [true, true, true, true, false, false, false, false, false, false], [true, true, true, true, true, true, true, true, true, true, true], [true, true, true, true, true, true, true, true, true, true, true, false], [true, true, true, true, true, true, true, true, true, true, true, false, false], [true, true, true, true, false, false, false, false, false, false, false, false, false, false], [false, false, false, false, false, false, false, false, false, false, false, false, false, false, false], [false, false, false, false, false, false, false, false, false, false, false, false, false, false, false, false], [false, false, false, false, false, false, false, false, false, false, false, false, false, false, false, false, false]]) (κ (X36.mk m a b c d f g h i l n o p r t u w y z a v2 v4 v6 a v9 v11 v13 v15 v17 v19 f v22 v24 v26 v28 v30 S) s)))))))) (qz s)))))))) (qz s))))) (qz s)) x s κ
theorem r122x4ok : RgOk P true o122x4 T36 r122x4 := fun _ _ x _ _ => by cases x; kernel_rfl
def o122x5 : Array Oper := regO (pth [1, 1, 0, 0, 1, 1, 1] c122v)
def r122x5 : RG X36 := fun call yl x s κ => X36.rec (motive := fun _ => MO X36) (fun m a b c d f g h i l n o p r t u w y z A B C D E F G H I J K L M N O Q R S s κ => binC u (.i .i64 1) 3 .add P s (fun v0 s => κ (X36.mk m a b c d f g h i l n o p r t v0 w y z A B C D E F G H I J K L M N O Q R v0) s)) x s κ
theorem r122x5ok : RgOk P false o122x5 T36 r122x5 := fun _ _ x _ _ => by cases x; kernel_rfl
def S122 : SF X36 := (seqS (regS P t3.fq r122x0) (seqS (regS P t3.fq r122x1) (blkS 0 (loopS (seqS (regS P t3.fq r122x2) (seqS (condS (fun x => X36.rec (motive := fun _ => FV) (fun _ _ _ _ _ _ _ _ _ _ _ _ _ _ _ _ z _ _ _ _ _ _ _ _ _ _ _ _ _ _ _ _ _ _ _ _ => z) x) skipS (exitS 0)) (seqS (blkS 1 (seqS (regS P t3.fq r122x3) (regS P t3.fq r122x4))) (regS P t3.fq r122x5))))))))
theorem S122ok : Sh P t3.fq T36 c122v S122 := by
  have e : c122v = (.seq (.region 0 o122x0 false) (.seq (.region 1 o122x1 false) (.block 0 (.loop (.seq (.region 2 o122x2 false) (.seq (.cond (.tmp 15) .skip (.exit 0)) (.seq (.block 1 (.seq (.region 3 o122x3 false) (.region 4 o122x4 true))) (.region 5 o122x5 false)))))))) := by kernel_rfl
  rw [e]
  exact (sh_seq (sh_reg r122x0ok) (sh_seq (sh_reg r122x1ok) (sh_blk 0 (sh_loop (sh_seq (sh_reg r122x2ok) (sh_seq (sh_cond (fun x => by cases x; rfl) sh_skip (sh_exit 0)) (sh_seq (sh_blk 1 (sh_seq (sh_reg r122x3ok) (sh_reg r122x4ok))) (sh_reg r122x5ok))))))))
def A122 : List FV → Option X36 := fun l => match l with
  | [a] => some (X36.mk [] a .e .e .e .e .e .e .e .e .e .e .e .e .e .e .e .e .e .e .e .e .e .e .e .e .e .e .e .e .e .e .e .e .e .e .e)
  | _ => none
def L122 : LQ := shal P T36 S122 [] 4000 A122
def E122 : LA := evCall P t3.fa 4000 122
theorem G122 : Good P 122 L122 E122 := good_shal all3 (by kernel_rfl) (show FT P 122 = some (c122v, 36, []) by kernel_rfl) S122ok (fun l x h => by
    unfold A122 at h
    split at h
    · cases h; exact ⟨by kernel_rfl, by kernel_rfl⟩
    · cases h) 4000
def t4 : LT := (.n 69 L69 E69 (.n 46 L46 E46 (.n 32 L32 E32 (.n 28 L28 E28 (.n 22 L22 E22 (.n 21 L21 E21 .e .e) (.n 27 L27 E27 .e .e)) (.n 31 L31 E31 (.n 30 L30 E30 .e .e) .e)) (.n 41 L41 E41 (.n 39 L39 E39 (.n 33 L33 E33 .e .e) (.n 40 L40 E40 .e .e)) (.n 43 L43 E43 (.n 42 L42 E42 .e .e) .e))) (.n 61 L61 E61 (.n 57 L57 E57 (.n 53 L53 E53 (.n 49 L49 E49 .e .e) (.n 56 L56 E56 .e .e)) (.n 60 L60 E60 (.n 58 L58 E58 .e .e) .e)) (.n 66 L66 E66 (.n 64 L64 E64 (.n 62 L62 E62 .e .e) .e) (.n 68 L68 E68 (.n 67 L67 E67 .e .e) .e)))) (.n 115 L115 E115 (.n 91 L91 E91 (.n 76 L76 E76 (.n 72 L72 E72 (.n 71 L71 E71 .e .e) (.n 73 L73 E73 .e .e)) (.n 90 L90 E90 (.n 86 L86 E86 .e .e) .e)) (.n 95 L95 E95 (.n 93 L93 E93 (.n 92 L92 E92 .e .e) .e) (.n 97 L97 E97 (.n 96 L96 E96 .e .e) .e))) (.n 125 L125 E125 (.n 122 L122 E122 (.n 117 L117 E117 (.n 116 L116 E116 .e .e) (.n 118 L118 E118 .e .e)) (.n 124 L124 E124 (.n 123 L123 E123 .e .e) .e)) (.n 142 L142 E142 (.n 141 L141 E141 (.n 138 L138 E138 .e .e) .e) (.n 147 L147 E147 (.n 143 L143 E143 .e .e) .e)))))
theorem all4 : t4.all (Good P) := ⟨G69, ⟨G46, ⟨G32, ⟨G28, ⟨G22, ⟨G21, trivial, trivial⟩, ⟨G27, trivial, trivial⟩⟩, ⟨G31, ⟨G30, trivial, trivial⟩, trivial⟩⟩, ⟨G41, ⟨G39, ⟨G33, trivial, trivial⟩, ⟨G40, trivial, trivial⟩⟩, ⟨G43, ⟨G42, trivial, trivial⟩, trivial⟩⟩⟩, ⟨G61, ⟨G57, ⟨G53, ⟨G49, trivial, trivial⟩, ⟨G56, trivial, trivial⟩⟩, ⟨G60, ⟨G58, trivial, trivial⟩, trivial⟩⟩, ⟨G66, ⟨G64, ⟨G62, trivial, trivial⟩, trivial⟩, ⟨G68, ⟨G67, trivial, trivial⟩, trivial⟩⟩⟩⟩, ⟨G115, ⟨G91, ⟨G76, ⟨G72, ⟨G71, trivial, trivial⟩, ⟨G73, trivial, trivial⟩⟩, ⟨G90, ⟨G86, trivial, trivial⟩, trivial⟩⟩, ⟨G95, ⟨G93, ⟨G92, trivial, trivial⟩, trivial⟩, ⟨G97, ⟨G96, trivial, trivial⟩, trivial⟩⟩⟩, ⟨G125, ⟨G122, ⟨G117, ⟨G116, trivial, trivial⟩, ⟨G118, trivial, trivial⟩⟩, ⟨G124, ⟨G123, trivial, trivial⟩, trivial⟩⟩, ⟨G142, ⟨G141, ⟨G138, trivial, trivial⟩, trivial⟩, ⟨G147, ⟨G143, trivial, trivial⟩, trivial⟩⟩⟩⟩⟩
end
end V
end Go.CE
