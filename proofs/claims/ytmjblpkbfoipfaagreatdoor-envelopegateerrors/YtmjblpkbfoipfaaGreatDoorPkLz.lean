/-
  The first tree of laws for letters: which fields the kinds use, their limits.
-/
import Derived.Test.YtmjblpkbfoipfaaGreatDoorPkTab
set_option linter.unusedSectionVars false
set_option linter.constructorNameAsVariable false
set_option linter.unusedVariables false
set_option linter.unusedSimpArgs false
namespace Go.CE
namespace V
variable [Sym] [SymOk]
noncomputable def P : Program := Go.Proofs.Tryz.prog
noncomputable def L59 : LQ := pairQ usesA
noncomputable def E59 : LA := pairE usesA
theorem G59 : Good P 59 L59 E59 := uses_good
noncomputable def L104 : LQ := pairQ limitsA
noncomputable def E104 : LA := pairE limitsA
theorem G104 : Good P 104 L104 E104 := limits_good
noncomputable def t0 : LT := .n 59 L59 E59 .e (.n 104 L104 E104 .e .e)
theorem all0 : t0.all (Good P) := ⟨G59, trivial, ⟨G104, trivial, trivial⟩⟩
end V
end Go.CE
namespace Go.CE
namespace V
set_option maxRecDepth 100000
noncomputable section
variable [Sym] [SymOk]
inductive X23 where
  | mk (m : List Nat) (a b c d f g h i l n o p r t u w y z A B C D E : FV)
def T23 (x : X23) : FF := X23.rec (motive := fun _ => FF) (fun m a b c d f g h i l n o p r t u w y z A B C D E => ⟨(.n a (.n b (.n g (.n D .e .e .e .e) .e .e .e) (.n n .e .e .e .e) (.n t .e .e .e .e) (.n z .e .e .e .e)) (.n c (.n h (.n E .e .e .e .e) .e .e .e) (.n o .e .e .e .e) (.n u .e .e .e .e) (.n A .e .e .e .e)) (.n d (.n i .e .e .e .e) (.n p .e .e .e .e) (.n w .e .e .e .e) (.n B .e .e .e .e)) (.n f (.n l .e .e .e .e) (.n r .e .e .e .e) (.n y .e .e .e .e) (.n C .e .e .e .e))), 23, m⟩) x
def c52v : Code := bodyOf P 52
def o52x0 : Array Oper := regO (pth [0] c52v)
def r52x0 : RG X23 := fun call yl x s κ => X23.rec (motive := fun _ => MO X23) (fun m a b c d f g h i l n o p r t u w y z A B C D E s κ => κ (X23.mk m a b c d f g c (.i .i64 0) l n o p r t u w y z A B C D E) s) x s κ
theorem r52x0ok : RgOk P false o52x0 T23 r52x0 := fun _ _ x _ _ => by cases x; kernel_rfl
def o52x1 : Array Oper := regO (pth [1, 0, 0, 0] c52v)
def r52x1 : RG X23 := fun call yl x s κ => X23.rec (motive := fun _ => MO X23) (fun m a b c d f g h i l n o p r t u w y z A B C D E s κ => binC i h 3 .lss P s (fun v0 s => κ (X23.mk m a b c d f g h i v0 n o p r t u w y z A B C D E) s)) x s κ
theorem r52x1ok : RgOk P false o52x1 T23 r52x1 := fun _ _ x _ _ => by cases x; kernel_rfl
def o52x2 : Array Oper := regO (pth [1, 0, 0, 1, 1, 0, 0, 0] c52v)
def r52x2 : RG X23 := fun call yl x s κ => X23.rec (motive := fun _ => MO X23) (fun m a b c d f g h i l n o p r t u w y z A B C D E s κ => nilC a s (fun v0 s => ptrK v0 1 s (fun v1 s => ldV v1 false 1 s (fun v2 s => cvV b .u8 s (fun v3 s => buildSliceC P 32 1 [(0, v3)] s (fun v4 s => appendC P 32 32 v2 v4 s (fun v5 s => nilC a s (fun v6 s => ptrK v6 1 s (fun v7 s => stA v7 v5 1 s (fun _ s => κ (X23.mk m a b c d f g h i l a a v0 v1 v2 b v3 v4 v5 v6 v7 C D E) s)))))))))) x s κ
theorem r52x2ok : RgOk P false o52x2 T23 r52x2 := fun _ _ x _ _ => by cases x; kernel_rfl
def o52x3 : Array Oper := regO (pth [1, 0, 0, 1, 1, 0, 0, 1] c52v)
def r52x3 : RG X23 := fun call yl x s κ => X23.rec (motive := fun _ => MO X23) (fun m a b c d f g h i l n o p r t u w y z A B C D E s κ => binC b (.i .u64 8) 3 .shr P s (fun v0 s => κ (X23.mk m a v0 c d f g h i l n o p r t u w y z A B b v0 E) s)) x s κ
theorem r52x3ok : RgOk P false o52x3 T23 r52x3 := fun _ _ x _ _ => by cases x; kernel_rfl
def o52x4 : Array Oper := regO (pth [1, 0, 0, 1, 1, 1] c52v)
def r52x4 : RG X23 := fun call yl x s κ => X23.rec (motive := fun _ => MO X23) (fun m a b c d f g h i l n o p r t u w y z A B C D E s κ => binC i (.i .i64 1) 3 .add P s (fun v0 s => κ (X23.mk m a b c d f g h v0 l n o p r t u w y z A B C D v0) s)) x s κ
theorem r52x4ok : RgOk P false o52x4 T23 r52x4 := fun _ _ x _ _ => by cases x; kernel_rfl
def S52 : SF X23 := (seqS (regS P t0.fq r52x0) (blkS 0 (loopS (seqS (regS P t0.fq r52x1) (seqS (condS (fun x => X23.rec (motive := fun _ => FV) (fun _ _ _ _ _ _ _ _ _ z _ _ _ _ _ _ _ _ _ _ _ _ _ _ => z) x) skipS (exitS 0)) (seqS (blkS 1 (seqS (regS P t0.fq r52x2) (regS P t0.fq r52x3))) (regS P t0.fq r52x4)))))))
theorem S52ok : Sh P t0.fq T23 c52v S52 := by
  have e : c52v = (.seq (.region 0 o52x0 false) (.block 0 (.loop (.seq (.region 1 o52x1 false) (.seq (.cond (.tmp 8) .skip (.exit 0)) (.seq (.block 1 (.seq (.region 2 o52x2 false) (.region 3 o52x3 false))) (.region 4 o52x4 false))))))) := by kernel_rfl
  rw [e]
  exact (sh_seq (sh_reg r52x0ok) (sh_blk 0 (sh_loop (sh_seq (sh_reg r52x1ok) (sh_seq (sh_cond (fun x => by cases x; rfl) sh_skip (sh_exit 0)) (sh_seq (sh_blk 1 (sh_seq (sh_reg r52x2ok) (sh_reg r52x3ok))) (sh_reg r52x4ok)))))))
def A52 : List FV → Option X23 := fun l => match l with
  | [a, b, c] => some (X23.mk [] a b c .e .e .e .e .e .e .e .e .e .e .e .e .e .e .e .e .e .e .e .e)
  | _ => none
def L52 : LQ := shal P T23 S52 [] 4000 A52
def E52 : LA := evCall P t0.fa 4000 52
theorem G52 : Good P 52 L52 E52 := good_shal all0 (by kernel_rfl) (show FT P 52 = some (c52v, 23, []) by kernel_rfl) S52ok (fun l x h => by
    unfold A52 at h
    split at h
    · cases h; exact ⟨by kernel_rfl, by kernel_rfl⟩
    · cases h) 4000
inductive X30 where
  | mk (m : List Nat) (a b c d f g h i l n o p r t u w y z A B C D E F G H I J K L : FV)
def T30 (x : X30) : FF := X30.rec (motive := fun _ => FF) (fun m a b c d f g h i l n o p r t u w y z A B C D E F G H I J K L => ⟨(.n a (.n b (.n g (.n D .e .e .e .e) .e .e .e) (.n n (.n H .e .e .e .e) .e .e .e) (.n t (.n L .e .e .e .e) .e .e .e) (.n z .e .e .e .e)) (.n c (.n h (.n E .e .e .e .e) .e .e .e) (.n o (.n I .e .e .e .e) .e .e .e) (.n u .e .e .e .e) (.n A .e .e .e .e)) (.n d (.n i (.n F .e .e .e .e) .e .e .e) (.n p (.n J .e .e .e .e) .e .e .e) (.n w .e .e .e .e) (.n B .e .e .e .e)) (.n f (.n l (.n G .e .e .e .e) .e .e .e) (.n r (.n K .e .e .e .e) .e .e .e) (.n y .e .e .e .e) (.n C .e .e .e .e))), 30, m⟩) x
def c115v : Code := bodyOf P 115
def o115x0 : Array Oper := regO (pth [0] c115v)
def r115x0 : RG X30 := fun call yl x s κ => X30.rec (motive := fun _ => MO X30) (fun m a b c d f g h i l n o p r t u w y z A B C D E F G H I J K L s κ => κ (X30.mk m a b c d (.o (.sl none 0 0)) g h i l n o p r t u w y z A B C D E F G H I J K L) s) x s κ
theorem r115x0ok : RgOk P false o115x0 T30 r115x0 := fun _ _ x _ _ => by cases x; kernel_rfl
def o115x1 : Array Oper := regO (pth [1, 0, 0] c115v)
def r115x1 : RG X30 := fun call yl x s κ => X30.rec (motive := fun _ => MO X30) (fun m a b c d f g h i l n o p r t u w y z A B C D E F G H I J K L s κ => sandS (fun s κ1 => ldV b false 1 s (κ1)) s (fun qv0 v1 s => sandS (fun s κ1 => ldV b false 1 s (κ1)) s (fun qv2 v3 s => sandS (fun s κ1 => nilC v3 s (κ1)) s (fun qv4 v5 s => sandS (fun s κ1 => ptrK v5 2 s (κ1)) s (fun qv6 v7 s => sandS (fun s κ1 => ldV v7 false 1 s (κ1)) s (fun qv8 v9 s => (fun qv10 => sandS (fun s κ1 => bnk (fun κ1 => wantC v9 false (κ1 a s) (κ1 .e s)) κ1) s (fun qv11 v12 s => sandS (fun s κ1 => bnk (fun κ1 => wantC v9 false (ldV c false 1 s (κ1)) (κ1 .e s)) κ1) s (fun qv13 v14 s => sandS (fun s κ1 => bnk (fun κ1 => wantC v9 false (lenC v14 P 32 s (κ1)) (κ1 .e s)) κ1) s (fun qv15 v16 s => sandS (fun s κ1 => bnk (fun κ1 => wantC v9 false (binC v12 v16 3 .gtr P s (κ1)) (κ1 .e s)) κ1) s (fun qv17 v18 s => sandS (fun s κ1 => bnk (fun κ0 => condB v9 (κ0 (.b true) s) (κ0 v18 s)) (κ1)) s (fun qv19 v20 s => sandS (fun s κ1 => nilC v1 s (κ1)) s (fun qv21 v22 s => sandS (fun s κ1 => ptrK v22 2 s (κ1)) s (fun qv23 v24 s => sandS (fun s κ1 => stA v24 v20 1 s (κ1)) s (fun qv25 v26 s => V.iff (dynA [] [qv0, qv2, qv4, qv6, qv8, qv10, qv11, qv13, qv15, qv17, qv19, qv21, qv23, qv25] [[], [true], [true, false], [true, false, false], [true, false, false, false], [true, false, false, false, false], [true, false, false, false, false, false], [true, false, false, false, false, false, true], [true, false, false, false, false, false, true, false], [true, false, false, false, false, false, false, false, false], [true, false, false, false, false, false, false, false, false, false], [false, false, false, false, false, false, false, false, false, false, false], [false, false, false, false, false, false, false, false, false, false, false, false], [false, false, false, false, false, false, false, false, false, false, false, false, false]]) (κ (X30.mk m a b c d f g v1 v3 v5 v7 v9 v9 v12 v14 v16 v18 v20 v22 v24 B C D E F G H I J K L) s)))))))))) (qz s))))))) x s κ
theorem r115x1ok : RgOk P true o115x1 T30 r115x1 := fun _ _ x _ _ => by cases x; kernel_rfl
def o115x2 : Array Oper := regO (pth [1, 0, 1, 0] c115v)
def r115x2 : RG X30 := fun call yl x s κ => X30.rec (motive := fun _ => MO X30) (fun m a b c d f g h i l n o p r t u w y z A B C D E F G H I J K L s κ => ldV b false 1 s (fun v0 s => nilC v0 s (fun v1 s => ptrK v1 2 s (fun v2 s => ldV v2 false 1 s (fun v3 s => κ (X30.mk m a b c d f g h i l n o p r t u w y z A v0 v1 v2 v3 F G H I J K L) s))))) x s κ
theorem r115x2ok : RgOk P false o115x2 T30 r115x2 := fun _ _ x _ _ => by cases x; kernel_rfl
def o115x3 : Array Oper := regO (pth [1, 0, 1, 1, 0, 0] c115v)
def r115x3 : RG X30 := fun call yl x s κ => X30.rec (motive := fun _ => MO X30) (fun m a b c d f g h i l n o p r t u w y z A B C D E F G H I J K L s κ => κ (X30.mk m a b c d (.o (.sl none 0 0)) g h i l n o p r t u w y z A B C D E F G H I J K L) s) x s κ
theorem r115x3ok : RgOk P false o115x3 T30 r115x3 := fun _ _ x _ _ => by cases x; kernel_rfl
def o115x4 : Array Oper := regO (pth [1, 1, 0] c115v)
def r115x4 : RG X30 := fun call yl x s κ => X30.rec (motive := fun _ => MO X30) (fun m a b c d f g h i l n o p r t u w y z A B C D E F G H I J K L s κ => ldV c false 1 s (fun v0 s => sliceC P 32 v0 none (some a) none s (fun v1 s => κ (X30.mk m a b c d f v1 h i l n o p r t u w y z A B C D E v0 a v1 I J K L) s))) x s κ
theorem r115x4ok : RgOk P false o115x4 T30 r115x4 := fun _ _ x _ _ => by cases x; kernel_rfl
def o115x5 : Array Oper := regO (pth [1, 1, 1, 0] c115v)
def r115x5 : RG X30 := fun call yl x s κ => X30.rec (motive := fun _ => MO X30) (fun m a b c d f g h i l n o p r t u w y z A B C D E F G H I J K L s κ => ldV c false 1 s (fun v0 s => sliceC P 32 v0 (some a) none none s (fun v1 s => stA c v1 1 s (fun _ s => κ (X30.mk m a b c d f g h i l n o p r t u w y z A B C D E F G H v0 a v1 L) s)))) x s κ
theorem r115x5ok : RgOk P false o115x5 T30 r115x5 := fun _ _ x _ _ => by cases x; kernel_rfl
def o115x6 : Array Oper := regO (pth [1, 1, 1, 1, 0] c115v)
def r115x6 : RG X30 := fun call yl x s κ => X30.rec (motive := fun _ => MO X30) (fun m a b c d f g h i l n o p r t u w y z A B C D E F G H I J K L s κ => κ (X30.mk m a b c d g g h i l n o p r t u w y z A B C D E F G H I J K g) s) x s κ
theorem r115x6ok : RgOk P false o115x6 T30 r115x6 := fun _ _ x _ _ => by cases x; kernel_rfl
def S115 : SF X30 := (seqS (regS P t0.fq r115x0) (seqS (seqS (regS P t0.fq r115x1) (seqS (regS P t0.fq r115x2) (condS (fun x => X30.rec (motive := fun _ => FV) (fun _ _ _ _ _ _ _ _ _ _ _ _ _ _ _ _ _ _ _ _ _ _ _ z _ _ _ _ _ _ _ => z) x) (seqS (regS P t0.fq r115x3) retS) skipS))) (seqS (regS P t0.fq r115x4) (seqS (regS P t0.fq r115x5) (seqS (regS P t0.fq r115x6) retS)))))
theorem S115ok : Sh P t0.fq T30 c115v S115 := by
  have e : c115v = (.seq (.region 0 o115x0 false) (.seq (.seq (.region 1 o115x1 true) (.seq (.region 2 o115x2 false) (.cond (.tmp 22) (.seq (.region 3 o115x3 false) .ret) .skip))) (.seq (.region 4 o115x4 false) (.seq (.region 5 o115x5 false) (.seq (.region 6 o115x6 false) .ret))))) := by kernel_rfl
  rw [e]
  exact (sh_seq (sh_reg r115x0ok) (sh_seq (sh_seq (sh_reg r115x1ok) (sh_seq (sh_reg r115x2ok) (sh_cond (fun x => by cases x; rfl) (sh_seq (sh_reg r115x3ok) sh_ret) sh_skip))) (sh_seq (sh_reg r115x4ok) (sh_seq (sh_reg r115x5ok) (sh_seq (sh_reg r115x6ok) sh_ret)))))
def A115 : List FV → Option X30 := fun l => match l with
  | [a, b, c] => some (X30.mk [] a b c .e .e .e .e .e .e .e .e .e .e .e .e .e .e .e .e .e .e .e .e .e .e .e .e .e .e .e)
  | _ => none
def L115 : LQ := shal P T30 S115 [.tmp 4] 4000 A115
def E115 : LA := evCall P t0.fa 4000 115
theorem G115 : Good P 115 L115 E115 := good_shal all0 (by kernel_rfl) (show FT P 115 = some (c115v, 30, [.tmp 4]) by kernel_rfl) S115ok (fun l x h => by
    unfold A115 at h
    split at h
    · cases h; exact ⟨by kernel_rfl, by kernel_rfl⟩
    · cases h) 4000
inductive X19 where
  | mk (m : List Nat) (a b c d f g h i l n o p r t u w y z A : FV)
def T19 (x : X19) : FF := X19.rec (motive := fun _ => FF) (fun m a b c d f g h i l n o p r t u w y z A => ⟨(.n a (.n b (.n g .e .e .e .e) (.n n .e .e .e .e) (.n t .e .e .e .e) (.n z .e .e .e .e)) (.n c (.n h .e .e .e .e) (.n o .e .e .e .e) (.n u .e .e .e .e) (.n A .e .e .e .e)) (.n d (.n i .e .e .e .e) (.n p .e .e .e .e) (.n w .e .e .e .e) .e) (.n f (.n l .e .e .e .e) (.n r .e .e .e .e) (.n y .e .e .e .e) .e)), 19, m⟩) x
def c142v : Code := bodyOf P 142
def o142x0 : Array Oper := regO (pth [0] c142v)
def r142x0 : RG X19 := fun call yl x s κ => X19.rec (motive := fun _ => MO X19) (fun m a b c d f g h i l n o p r t u w y z A s κ => ldV b false 1 s (fun v0 s => lenC v0 P 32 s (fun v1 s => binC v1 (.i .i64 1) 3 .sub P s (fun v2 s => κ (X19.mk m a b c v2 v0 v1 v2 i l n o p r t u w y z A) s)))) x s κ
theorem r142x0ok : RgOk P false o142x0 T19 r142x0 := fun _ _ x _ _ => by cases x; kernel_rfl
def o142x1 : Array Oper := regO (pth [1, 0, 0, 0, 0] c142v)
def r142x1 : RG X19 := fun call yl x s κ => X19.rec (motive := fun _ => MO X19) (fun m a b c d f g h i l n o p r t u w y z A s κ => binC d (.i .i64 0) 3 .geq P s (fun v0 s => κ (X19.mk m a b c d f g h d v0 n o p r t u w y z A) s)) x s κ
theorem r142x1ok : RgOk P false o142x1 T19 r142x1 := fun _ _ x _ _ => by cases x; kernel_rfl
def o142x2 : Array Oper := regO (pth [1, 0, 0, 1, 0, 0, 0] c142v)
def r142x2 : RG X19 := fun call yl x s κ => X19.rec (motive := fun _ => MO X19) (fun m a b c d f g h i l n o p r t u w y z A s κ => ldV b false 1 s (fun v0 s => natK d fun j => iaS v0 j 1 s (fun v1 s => ldV v1 false 1 s (fun v2 s => callV a [d, v2] call yl s (fun v3 s => notC v3 s (fun v4 s => κ (X19.mk m a b c d f g h i l n o a d v0 d v1 v2 v3 v4) s)))))) x s κ
theorem r142x2ok : RgOk P false o142x2 T19 r142x2 := fun _ _ x _ _ => by cases x; kernel_rfl
def o142x3 : Array Oper := regO (pth [1, 0, 0, 1, 1] c142v)
def r142x3 : RG X19 := fun call yl x s κ => X19.rec (motive := fun _ => MO X19) (fun m a b c d f g h i l n o p r t u w y z A s κ => binC d (.i .i64 1) 3 .sub P s (fun v0 s => κ (X19.mk m a b c v0 f g h i l d v0 p r t u w y z A) s)) x s κ
theorem r142x3ok : RgOk P false o142x3 T19 r142x3 := fun _ _ x _ _ => by cases x; kernel_rfl
def S142 : SF X19 := (seqS (regS P t0.fq r142x0) (blkS 0 (loopS (seqS (seqS (regS P t0.fq r142x1) (condS (fun x => X19.rec (motive := fun _ => FV) (fun _ _ _ _ _ _ _ _ _ z _ _ _ _ _ _ _ _ _ _ => z) x) skipS (exitS 0))) (seqS (blkS 1 (seqS (regS P t0.fq r142x2) (condS (fun x => X19.rec (motive := fun _ => FV) (fun _ _ _ _ _ _ _ _ _ _ _ _ _ _ _ _ _ _ _ z => z) x) retS skipS))) (regS P t0.fq r142x3))))))
theorem S142ok : Sh P t0.fq T19 c142v S142 := by
  have e : c142v = (.seq (.region 0 o142x0 false) (.block 0 (.loop (.seq (.seq (.region 1 o142x1 false) (.cond (.tmp 8) .skip (.exit 0))) (.seq (.block 1 (.seq (.region 3 o142x2 false) (.cond (.tmp 18) .ret .skip))) (.region 2 o142x3 false)))))) := by kernel_rfl
  rw [e]
  exact (sh_seq (sh_reg r142x0ok) (sh_blk 0 (sh_loop (sh_seq (sh_seq (sh_reg r142x1ok) (sh_cond (fun x => by cases x; rfl) sh_skip (sh_exit 0))) (sh_seq (sh_blk 1 (sh_seq (sh_reg r142x2ok) (sh_cond (fun x => by cases x; rfl) sh_ret sh_skip))) (sh_reg r142x3ok))))))
def A142 : List FV → Option X19 := fun l => match l with
  | [a, b] => some (X19.mk [] a b .e .e .e .e .e .e .e .e .e .e .e .e .e .e .e .e .e)
  | _ => none
def L142 : LQ := shal P T19 S142 [] 4000 A142
def E142 : LA := evCall P t0.fa 4000 142
theorem G142 : Good P 142 L142 E142 := good_shal all0 (by kernel_rfl) (show FT P 142 = some (c142v, 19, []) by kernel_rfl) S142ok (fun l x h => by
    unfold A142 at h
    split at h
    · cases h; exact ⟨by kernel_rfl, by kernel_rfl⟩
    · cases h) 4000
inductive X17 where
  | mk (m : List Nat) (a b c d f g h i l n o p r t u w y : FV)
def T17 (x : X17) : FF := X17.rec (motive := fun _ => FF) (fun m a b c d f g h i l n o p r t u w y => ⟨(.n a (.n b (.n g .e .e .e .e) (.n n .e .e .e .e) (.n t .e .e .e .e) .e) (.n c (.n h .e .e .e .e) (.n o .e .e .e .e) (.n u .e .e .e .e) .e) (.n d (.n i .e .e .e .e) (.n p .e .e .e .e) (.n w .e .e .e .e) .e) (.n f (.n l .e .e .e .e) (.n r .e .e .e .e) (.n y .e .e .e .e) .e)), 17, m⟩) x
def c57v : Code := bodyOf P 57
def o57x0 : Array Oper := regO (pth [] c57v)
def r57x0 : RG X17 := fun call yl x s κ => X17.rec (motive := fun _ => MO X17) (fun m a b c d f g h i l n o p r t u w y s κ => (fun qv0 => (fun qv1 => sandS (fun s κ1 => nilC a s (κ1)) s (fun qv2 v3 s => sandS (fun s κ1 => ptrK v3 1 s (κ1)) s (fun qv4 v5 s => sandS (fun s κ1 => ldV v5 false 1 s (κ1)) s (fun qv6 v7 s => (fun qv8 => sandS (fun s κ1 => nilC a s (κ1)) s (fun qv9 v10 s => sandS (fun s κ1 => ptrK v10 0 s (κ1)) s (fun qv11 v12 s => sandS (fun s κ1 => ldV v12 false 1 s (κ1)) s (fun qv13 v14 s => sandS (fun s κ1 => nilC v14 s (κ1)) s (fun qv15 v16 s => sandS (fun s κ1 => ptrK v16 30 s (κ1)) s (fun qv17 v18 s => sandS (fun s κ1 => sliceC P 34 v18 none none none s (κ1)) s (fun qv19 v20 s => sandS (fun s κ1 => appendC P 32 32 v7 v20 s (κ1)) s (fun qv21 v22 s => sandS (fun s κ1 => nilC a s (κ1)) s (fun qv23 v24 s => sandS (fun s κ1 => ptrK v24 1 s (κ1)) s (fun qv25 v26 s => sandS (fun s κ1 => stA v26 v22 1 s (κ1)) s (fun qv27 v28 s => V.iff (dynA [] [qv0, qv1, qv2, qv4, qv6, qv8, qv9, qv11, qv13, qv15, qv17, qv19, qv21, qv23, qv25, qv27] [[], [true], [true, false], [true, false, false], [true, false, false, false], [true, true, true, true, true], [true, true, true, true, true, false], [true, true, true, true, true, false, false], [true, true, true, true, true, false, false, false], [true, true, true, true, true, false, false, false, false], [true, true, true, true, true, false, false, false, false, false], [true, true, true, true, true, false, false, false, false, false, false], [true, false, false, false, false, false, false, false, false, false, false, false], [false, false, false, false, false, false, false, false, false, false, false, false, false], [false, false, false, false, false, false, false, false, false, false, false, false, false, false], [false, false, false, false, false, false, false, false, false, false, false, false, false, false, false]]) (κ (X17.mk m a b a a v3 v5 v7 a v10 v12 v14 v16 v18 v20 v22 v24 v26) s)))))))))))) (qz s))))) (qz s)) (qz s)) x s κ
theorem r57x0ok : RgOk P true o57x0 T17 r57x0 := fun _ _ x _ _ => by cases x; kernel_rfl
def S57 : SF X17 := (regS P t0.fq r57x0)
theorem S57ok : Sh P t0.fq T17 c57v S57 := by
  have e : c57v = (.region 0 o57x0 true) := by kernel_rfl
  rw [e]
  exact (sh_reg r57x0ok)
def A57 : List FV → Option X17 := fun l => match l with
  | [a] => some (X17.mk [] a .e .e .e .e .e .e .e .e .e .e .e .e .e .e .e .e)
  | _ => none
def L57 : LQ := shal P T17 S57 [] 4000 A57
def E57 : LA := evCall P t0.fa 4000 57
theorem G57 : Good P 57 L57 E57 := good_shal all0 (by kernel_rfl) (show FT P 57 = some (c57v, 17, []) by kernel_rfl) S57ok (fun l x h => by
    unfold A57 at h
    split at h
    · cases h; exact ⟨by kernel_rfl, by kernel_rfl⟩
    · cases h) 4000
inductive X15 where
  | mk (m : List Nat) (a b c d f g h i l n o p r t u : FV)
def T15 (x : X15) : FF := X15.rec (motive := fun _ => FF) (fun m a b c d f g h i l n o p r t u => ⟨(.n a (.n b (.n g .e .e .e .e) (.n n .e .e .e .e) (.n t .e .e .e .e) .e) (.n c (.n h .e .e .e .e) (.n o .e .e .e .e) (.n u .e .e .e .e) .e) (.n d (.n i .e .e .e .e) (.n p .e .e .e .e) .e .e) (.n f (.n l .e .e .e .e) (.n r .e .e .e .e) .e .e)), 15, m⟩) x
def c88v : Code := bodyOf P 88
def o88x0 : Array Oper := regO (pth [] c88v)
def r88x0 : RG X15 := fun call yl x s κ => X15.rec (motive := fun _ => MO X15) (fun m a b c d f g h i l n o p r t u s κ => (fun qv0 => sandS (fun s κ1 => nilC a s (κ1)) s (fun qv1 v2 s => sandS (fun s κ1 => ptrK v2 0 s (κ1)) s (fun qv3 v4 s => sandS (fun s κ1 => ldV v4 false 1 s (κ1)) s (fun qv5 v6 s => sandS (fun s κ1 => nilC v6 s (κ1)) s (fun qv7 v8 s => sandS (fun s κ1 => ptrK v8 30 s (κ1)) s (fun qv9 v10 s => sandS (fun s κ1 => sliceC P 34 v10 none none none s (κ1)) s (fun qv11 v12 s => (fun qv13 => sandS (fun s κ1 => nilC a s (κ1)) s (fun qv14 v15 s => sandS (fun s κ1 => ptrK v15 1 s (κ1)) s (fun qv16 v17 s => sandS (fun s κ1 => ldV v17 false 1 s (κ1)) s (fun qv18 v19 s => sandS (fun s κ1 => callV v19 [(.i .i64 32)] call yl s (κ1)) s (fun qv20 v21 s => sandS (fun s κ1 => copyC P 32 v12 v21 s (κ1)) s (fun qv22 v23 s => V.iff (dynA [] [qv0, qv1, qv3, qv5, qv7, qv9, qv11, qv13, qv14, qv16, qv18, qv20, qv22] [[], [false], [false, false], [false, false, false], [false, false, false, false], [false, false, false, false, false], [false, false, false, false, false, false], [true, true, true, true, true, true, true], [true, true, true, true, true, true, true, false], [true, true, true, true, true, true, true, false, false], [true, true, true, true, true, true, true, false, false, false], [true, true, true, true, true, true, true, false, false, false, false], [false, false, false, false, false, false, false, false, false, false, false, false]]) (κ (X15.mk m a b a v2 v4 v6 v8 v10 v12 a v15 v17 v19 v21 v23) s))))))) (qz s)))))))) (qz s)) x s κ
theorem r88x0ok : RgOk P true o88x0 T15 r88x0 := fun _ _ x _ _ => by cases x; kernel_rfl
def S88 : SF X15 := (regS P t0.fq r88x0)
theorem S88ok : Sh P t0.fq T15 c88v S88 := by
  have e : c88v = (.region 0 o88x0 true) := by kernel_rfl
  rw [e]
  exact (sh_reg r88x0ok)
def A88 : List FV → Option X15 := fun l => match l with
  | [a] => some (X15.mk [] a .e .e .e .e .e .e .e .e .e .e .e .e .e .e)
  | _ => none
def L88 : LQ := shal P T15 S88 [] 4000 A88
def E88 : LA := evCall P t0.fa 4000 88
theorem G88 : Good P 88 L88 E88 := good_shal all0 (by kernel_rfl) (show FT P 88 = some (c88v, 15, []) by kernel_rfl) S88ok (fun l x h => by
    unfold A88 at h
    split at h
    · cases h; exact ⟨by kernel_rfl, by kernel_rfl⟩
    · cases h) 4000
inductive X13 where
  | mk (m : List Nat) (a b c d f g h i l n o p r : FV)
def T13 (x : X13) : FF := X13.rec (motive := fun _ => FF) (fun m a b c d f g h i l n o p r => ⟨(.n a (.n b (.n g .e .e .e .e) (.n n .e .e .e .e) .e .e) (.n c (.n h .e .e .e .e) (.n o .e .e .e .e) .e .e) (.n d (.n i .e .e .e .e) (.n p .e .e .e .e) .e .e) (.n f (.n l .e .e .e .e) (.n r .e .e .e .e) .e .e)), 13, m⟩) x
def c116v : Code := bodyOf P 116
def o116x0 : Array Oper := regO (pth [0] c116v)
def r116x0 : RG X13 := fun call yl x s κ => X13.rec (motive := fun _ => MO X13) (fun m a b c d f g h i l n o p r s κ => κ (X13.mk m a b (.b false) d f g h i l n o p r) s) x s κ
theorem r116x0ok : RgOk P false o116x0 T13 r116x0 := fun _ _ x _ _ => by cases x; kernel_rfl
def o116x1 : Array Oper := regO (pth [1, 0] c116v)
def r116x1 : RG X13 := fun call yl x s κ => X13.rec (motive := fun _ => MO X13) (fun m a b c d f g h i l n o p r s κ => ldV a false 1 s (fun v0 s => nilC v0 s (fun v1 s => ptrK v1 2 s (fun v2 s => ldV v2 false 1 s (fun v3 s => notC v3 s (fun v4 s => bnk (fun κ1 => wantC v4 true (ldV b false 1 s (κ1)) (κ1 .e s)) (fun v5 s => bnk (fun κ1 => wantC v4 true (lenC v5 P 32 s (κ1)) (κ1 .e s)) (fun v6 s => bnk (fun κ1 => wantC v4 true (binC v6 (.i .i64 0) 3 .eql P s (κ1)) (κ1 .e s)) (fun v7 s => bnk (fun κ0 => condB v4 (κ0 v7 s) (κ0 (.b false) s)) (fun v8 s => κ (X13.mk m a b v8 v0 v1 v2 v3 v4 v4 v5 v6 v7 v8) s)))))))))) x s κ
theorem r116x1ok : RgOk P false o116x1 T13 r116x1 := fun _ _ x _ _ => by cases x; kernel_rfl
def S116 : SF X13 := (seqS (regS P t0.fq r116x0) (seqS (regS P t0.fq r116x1) retS))
theorem S116ok : Sh P t0.fq T13 c116v S116 := by
  have e : c116v = (.seq (.region 0 o116x0 false) (.seq (.region 1 o116x1 false) .ret)) := by kernel_rfl
  rw [e]
  exact (sh_seq (sh_reg r116x0ok) (sh_seq (sh_reg r116x1ok) sh_ret))
def A116 : List FV → Option X13 := fun l => match l with
  | [a, b] => some (X13.mk [] a b .e .e .e .e .e .e .e .e .e .e .e)
  | _ => none
def L116 : LQ := shal P T13 S116 [.tmp 2] 4000 A116
def E116 : LA := evCall P t0.fa 4000 116
theorem G116 : Good P 116 L116 E116 := good_shal all0 (by kernel_rfl) (show FT P 116 = some (c116v, 13, [.tmp 2]) by kernel_rfl) S116ok (fun l x h => by
    unfold A116 at h
    split at h
    · cases h; exact ⟨by kernel_rfl, by kernel_rfl⟩
    · cases h) 4000
inductive X21 where
  | mk (m : List Nat) (a b c d f g h i l n o p r t u w y z A B C : FV)
def T21 (x : X21) : FF := X21.rec (motive := fun _ => FF) (fun m a b c d f g h i l n o p r t u w y z A B C => ⟨(.n a (.n b (.n g .e .e .e .e) (.n n .e .e .e .e) (.n t .e .e .e .e) (.n z .e .e .e .e)) (.n c (.n h .e .e .e .e) (.n o .e .e .e .e) (.n u .e .e .e .e) (.n A .e .e .e .e)) (.n d (.n i .e .e .e .e) (.n p .e .e .e .e) (.n w .e .e .e .e) (.n B .e .e .e .e)) (.n f (.n l .e .e .e .e) (.n r .e .e .e .e) (.n y .e .e .e .e) (.n C .e .e .e .e))), 21, m⟩) x
def c96v : Code := bodyOf P 96
def o96x0 : Array Oper := regO (pth [0] c96v)
def r96x0 : RG X21 := fun call yl x s κ => X21.rec (motive := fun _ => MO X21) (fun m a b c d f g h i l n o p r t u w y z A B C s κ => κ (X21.mk m a b (.o (.sl none 0 0)) d f g h i l n o p r t u w y z A B C) s) x s κ
theorem r96x0ok : RgOk P false o96x0 T21 r96x0 := fun _ _ x _ _ => by cases x; kernel_rfl
def o96x1 : Array Oper := regO (pth [1, 0] c96v)
def r96x1 : RG X21 := fun call yl x s κ => X21.rec (motive := fun _ => MO X21) (fun m a b c d f g h i l n o p r t u w y z A B C s κ => cvV a .u64 s (fun v0 s => κ (X21.mk m a b c v0 f g a v0 l n o p r t u w y z A B C) s)) x s κ
theorem r96x1ok : RgOk P false o96x1 T21 r96x1 := fun _ _ x _ _ => by cases x; kernel_rfl
def o96x2 : Array Oper := regO (pth [1, 1, 0] c96v)
def r96x2 : RG X21 := fun call yl x s κ => X21.rec (motive := fun _ => MO X21) (fun m a b c d f g h i l n o p r t u w y z A B C s κ => κ (X21.mk m a b c d (.o (.sl none 0 0)) g h i l n o p r t u w y z A B C) s) x s κ
theorem r96x2ok : RgOk P false o96x2 T21 r96x2 := fun _ _ x _ _ => by cases x; kernel_rfl
def o96x3 : Array Oper := regO (pth [1, 1, 1, 0, 0] c96v)
def r96x3 : RG X21 := fun call yl x s κ => X21.rec (motive := fun _ => MO X21) (fun m a b c d f g h i l n o p r t u w y z A B C s κ => κ (X21.mk m a b c d f (.i .i64 0) h i l n o p r t u w y z A B C) s) x s κ
theorem r96x3ok : RgOk P false o96x3 T21 r96x3 := fun _ _ x _ _ => by cases x; kernel_rfl
def o96x4 : Array Oper := regO (pth [1, 1, 1, 0, 1, 0, 0, 0, 0] c96v)
def r96x4 : RG X21 := fun call yl x s κ => X21.rec (motive := fun _ => MO X21) (fun m a b c d f g h i l n o p r t u w y z A B C s κ => binC g (.i .i64 8) 3 .lss P s (fun v0 s => κ (X21.mk m a b c d f g h i g v0 o p r t u w y z A B C) s)) x s κ
theorem r96x4ok : RgOk P false o96x4 T21 r96x4 := fun _ _ x _ _ => by cases x; kernel_rfl
def o96x5 : Array Oper := regO (pth [1, 1, 1, 0, 1, 0, 0, 1, 0, 0] c96v)
def r96x5 : RG X21 := fun call yl x s κ => X21.rec (motive := fun _ => MO X21) (fun m a b c d f g h i l n o p r t u w y z A B C s κ => binC (.i .i64 8) g 3 .mul P s (fun v0 s => binC d v0 122 .shr P s (fun v1 s => cvV v1 .u8 s (fun v2 s => buildSliceC P 32 1 [(0, v2)] s (fun v3 s => appendC P 32 32 f v3 s (fun v4 s => κ (X21.mk m a b c d v4 g h i l n o p f d g v0 v1 v2 v3 v4 C) s)))))) x s κ
theorem r96x5ok : RgOk P false o96x5 T21 r96x5 := fun _ _ x _ _ => by cases x; kernel_rfl
def o96x6 : Array Oper := regO (pth [1, 1, 1, 0, 1, 0, 0, 1, 1] c96v)
def r96x6 : RG X21 := fun call yl x s κ => X21.rec (motive := fun _ => MO X21) (fun m a b c d f g h i l n o p r t u w y z A B C s κ => binC g (.i .i64 1) 3 .add P s (fun v0 s => κ (X21.mk m a b c d f v0 h i l n g v0 r t u w y z A B C) s)) x s κ
theorem r96x6ok : RgOk P false o96x6 T21 r96x6 := fun _ _ x _ _ => by cases x; kernel_rfl
def o96x7 : Array Oper := regO (pth [1, 1, 1, 1, 0] c96v)
def r96x7 : RG X21 := fun call yl x s κ => X21.rec (motive := fun _ => MO X21) (fun m a b c d f g h i l n o p r t u w y z A B C s κ => κ (X21.mk m a b f d f g h i l n o p r t u w y z A B f) s) x s κ
theorem r96x7ok : RgOk P false o96x7 T21 r96x7 := fun _ _ x _ _ => by cases x; kernel_rfl
def S96 : SF X21 := (seqS (regS P t0.fq r96x0) (seqS (regS P t0.fq r96x1) (seqS (regS P t0.fq r96x2) (seqS (seqS (regS P t0.fq r96x3) (blkS 0 (loopS (seqS (seqS (regS P t0.fq r96x4) (condS (fun x => X21.rec (motive := fun _ => FV) (fun _ _ _ _ _ _ _ _ _ _ z _ _ _ _ _ _ _ _ _ _ _ => z) x) skipS (exitS 0))) (seqS (blkS 1 (regS P t0.fq r96x5)) (regS P t0.fq r96x6)))))) (seqS (regS P t0.fq r96x7) retS)))))
theorem S96ok : Sh P t0.fq T21 c96v S96 := by
  have e : c96v = (.seq (.region 0 o96x0 false) (.seq (.region 1 o96x1 false) (.seq (.region 2 o96x2 false) (.seq (.seq (.region 3 o96x3 false) (.block 0 (.loop (.seq (.seq (.region 4 o96x4 false) (.cond (.tmp 9) .skip (.exit 0))) (.seq (.block 1 (.region 6 o96x5 false)) (.region 5 o96x6 false)))))) (.seq (.region 7 o96x7 false) .ret))))) := by kernel_rfl
  rw [e]
  exact (sh_seq (sh_reg r96x0ok) (sh_seq (sh_reg r96x1ok) (sh_seq (sh_reg r96x2ok) (sh_seq (sh_seq (sh_reg r96x3ok) (sh_blk 0 (sh_loop (sh_seq (sh_seq (sh_reg r96x4ok) (sh_cond (fun x => by cases x; rfl) sh_skip (sh_exit 0))) (sh_seq (sh_blk 1 (sh_reg r96x5ok)) (sh_reg r96x6ok)))))) (sh_seq (sh_reg r96x7ok) sh_ret)))))
def A96 : List FV → Option X21 := fun l => match l with
  | [a] => some (X21.mk [] a .e .e .e .e .e .e .e .e .e .e .e .e .e .e .e .e .e .e .e .e)
  | _ => none
def L96 : LQ := shal P T21 S96 [.tmp 2] 4000 A96
def E96 : LA := evCall P t0.fa 4000 96
theorem G96 : Good P 96 L96 E96 := good_shal all0 (by kernel_rfl) (show FT P 96 = some (c96v, 21, [.tmp 2]) by kernel_rfl) S96ok (fun l x h => by
    unfold A96 at h
    split at h
    · cases h; exact ⟨by kernel_rfl, by kernel_rfl⟩
    · cases h) 4000
inductive X38 where
  | mk (m : List Nat) (a b c d f g h i l n o p r t u w y z A B C D E F G H I J K L M N O Q R S T U : FV)
def T38 (x : X38) : FF := X38.rec (motive := fun _ => FF) (fun m a b c d f g h i l n o p r t u w y z A B C D E F G H I J K L M N O Q R S T U => ⟨(.n a (.n b (.n g (.n D .e .e .e .e) (.n U .e .e .e .e) .e .e) (.n n (.n H .e .e .e .e) .e .e .e) (.n t (.n L .e .e .e .e) .e .e .e) (.n z (.n Q .e .e .e .e) .e .e .e)) (.n c (.n h (.n E .e .e .e .e) .e .e .e) (.n o (.n I .e .e .e .e) .e .e .e) (.n u (.n M .e .e .e .e) .e .e .e) (.n A (.n R .e .e .e .e) .e .e .e)) (.n d (.n i (.n F .e .e .e .e) .e .e .e) (.n p (.n J .e .e .e .e) .e .e .e) (.n w (.n N .e .e .e .e) .e .e .e) (.n B (.n S .e .e .e .e) .e .e .e)) (.n f (.n l (.n G .e .e .e .e) .e .e .e) (.n r (.n K .e .e .e .e) .e .e .e) (.n y (.n O .e .e .e .e) .e .e .e) (.n C (.n T .e .e .e .e) .e .e .e))), 38, m⟩) x
def c101v : Code := bodyOf P 101
def o101x0 : Array Oper := regO (pth [0] c101v)
def r101x0 : RG X38 := fun call yl x s κ => X38.rec (motive := fun _ => MO X38) (fun m a b c d f g h i l n o p r t u w y z A B C D E F G H I J K L M N O Q R S T U s κ => κ (X38.mk m a b c d (.o (.sl none 0 0)) g h i l n o p r t u w y z A B C D E F G H I J K L M N O Q R S T U) s) x s κ
theorem r101x0ok : RgOk P false o101x0 T38 r101x0 := fun _ _ x _ _ => by cases x; kernel_rfl
def o101x1 : Array Oper := regO (pth [1, 0, 0] c101v)
def r101x1 : RG X38 := fun call yl x s κ => X38.rec (motive := fun _ => MO X38) (fun m a b c d f g h i l n o p r t u w y z A B C D E F G H I J K L M N O Q R S T U s κ => nilC a s (fun v0 s => ptrK v0 1 s (fun v1 s => ldV v1 false 1 s (fun v2 s => bnk (fun κ1 => wantC v2 false (κ1 b s) (κ1 .e s)) (fun v3 s => bnk (fun κ1 => wantC v2 false (κ1 a s) (κ1 .e s)) (fun v4 s => bnk (fun κ1 => wantC v2 false (nilC v4 s (κ1)) (κ1 .e s)) (fun v5 s => bnk (fun κ1 => wantC v2 false (ptrK v5 0 s (κ1)) (κ1 .e s)) (fun v6 s => bnk (fun κ1 => wantC v2 false (ldV v6 false 1 s (κ1)) (κ1 .e s)) (fun v7 s => bnk (fun κ1 => wantC v2 false (lenC v7 P 32 s (κ1)) (κ1 .e s)) (fun v8 s => bnk (fun κ1 => wantC v2 false (binC v3 v8 3 .gtr P s (κ1)) (κ1 .e s)) (fun v9 s => bnk (fun κ0 => condB v2 (κ0 (.b true) s) (κ0 v9 s)) (fun v10 s => κ (X38.mk m a b c d f g a v0 v1 v2 v2 v3 v4 v5 v6 v7 v8 v9 v10 B C D E F G H I J K L M N O Q R S T U) s)))))))))))) x s κ
theorem r101x1ok : RgOk P false o101x1 T38 r101x1 := fun _ _ x _ _ => by cases x; kernel_rfl
def o101x2 : Array Oper := regO (pth [1, 0, 1, 0, 0] c101v)
def r101x2 : RG X38 := fun call yl x s κ => X38.rec (motive := fun _ => MO X38) (fun m a b c d f g h i l n o p r t u w y z A B C D E F G H I J K L M N O Q R S T U s κ => nilC a s (fun v0 s => ptrK v0 1 s (fun v1 s => stA v1 (.b true) 1 s (fun _ s => κ (X38.mk m a b c d f g h i l n o p r t u w y z A a v0 v1 E F G H I J K L M N O Q R S T U) s)))) x s κ
theorem r101x2ok : RgOk P false o101x2 T38 r101x2 := fun _ _ x _ _ => by cases x; kernel_rfl
def o101x3 : Array Oper := regO (pth [1, 0, 1, 0, 1, 0] c101v)
def r101x3 : RG X38 := fun call yl x s κ => X38.rec (motive := fun _ => MO X38) (fun m a b c d f g h i l n o p r t u w y z A B C D E F G H I J K L M N O Q R S T U s κ => κ (X38.mk m a b c d (.o (.sl none 0 0)) g h i l n o p r t u w y z A B C D E F G H I J K L M N O Q R S T U) s) x s κ
theorem r101x3ok : RgOk P false o101x3 T38 r101x3 := fun _ _ x _ _ => by cases x; kernel_rfl
def o101x4 : Array Oper := regO (pth [1, 1, 0] c101v)
def r101x4 : RG X38 := fun call yl x s κ => X38.rec (motive := fun _ => MO X38) (fun m a b c d f g h i l n o p r t u w y z A B C D E F G H I J K L M N O Q R S T U s κ => nilC a s (fun v0 s => ptrK v0 0 s (fun v1 s => ldV v1 false 1 s (fun v2 s => sliceC P 32 v2 none (some b) none s (fun v3 s => κ (X38.mk m a b c d f v3 h i l n o p r t u w y z A B C D a v0 v1 v2 b v3 K L M N O Q R S T U) s))))) x s κ
theorem r101x4ok : RgOk P false o101x4 T38 r101x4 := fun _ _ x _ _ => by cases x; kernel_rfl
def o101x5 : Array Oper := regO (pth [1, 1, 1, 0] c101v)
def r101x5 : RG X38 := fun call yl x s κ => X38.rec (motive := fun _ => MO X38) (fun m a b c d f g h i l n o p r t u w y z A B C D E F G H I J K L M N O Q R S T U s κ => nilC a s (fun v0 s => ptrK v0 0 s (fun v1 s => ldV v1 false 1 s (fun v2 s => sliceC P 32 v2 (some b) none none s (fun v3 s => nilC a s (fun v4 s => ptrK v4 0 s (fun v5 s => stA v5 v3 1 s (fun _ s => κ (X38.mk m a b c d f g h i l n o p r t u w y z A B C D E F G H I J a a v0 v1 v2 b v3 v4 v5 U) s)))))))) x s κ
theorem r101x5ok : RgOk P false o101x5 T38 r101x5 := fun _ _ x _ _ => by cases x; kernel_rfl
def o101x6 : Array Oper := regO (pth [1, 1, 1, 1, 0] c101v)
def r101x6 : RG X38 := fun call yl x s κ => X38.rec (motive := fun _ => MO X38) (fun m a b c d f g h i l n o p r t u w y z A B C D E F G H I J K L M N O Q R S T U s κ => κ (X38.mk m a b c d g g h i l n o p r t u w y z A B C D E F G H I J K L M N O Q R S T g) s) x s κ
theorem r101x6ok : RgOk P false o101x6 T38 r101x6 := fun _ _ x _ _ => by cases x; kernel_rfl
def S101 : SF X38 := (seqS (regS P t0.fq r101x0) (seqS (seqS (regS P t0.fq r101x1) (condS (fun x => X38.rec (motive := fun _ => FV) (fun _ _ _ _ _ _ _ _ _ _ _ _ _ _ _ _ _ _ _ z _ _ _ _ _ _ _ _ _ _ _ _ _ _ _ _ _ _ _ => z) x) (seqS (regS P t0.fq r101x2) (seqS (regS P t0.fq r101x3) retS)) skipS)) (seqS (regS P t0.fq r101x4) (seqS (regS P t0.fq r101x5) (seqS (regS P t0.fq r101x6) retS)))))
theorem S101ok : Sh P t0.fq T38 c101v S101 := by
  have e : c101v = (.seq (.region 0 o101x0 false) (.seq (.seq (.region 1 o101x1 false) (.cond (.tmp 18) (.seq (.region 2 o101x2 false) (.seq (.region 3 o101x3 false) .ret)) .skip)) (.seq (.region 4 o101x4 false) (.seq (.region 5 o101x5 false) (.seq (.region 6 o101x6 false) .ret))))) := by kernel_rfl
  rw [e]
  exact (sh_seq (sh_reg r101x0ok) (sh_seq (sh_seq (sh_reg r101x1ok) (sh_cond (fun x => by cases x; rfl) (sh_seq (sh_reg r101x2ok) (sh_seq (sh_reg r101x3ok) sh_ret)) sh_skip)) (sh_seq (sh_reg r101x4ok) (sh_seq (sh_reg r101x5ok) (sh_seq (sh_reg r101x6ok) sh_ret)))))
def A101 : List FV → Option X38 := fun l => match l with
  | [a, b] => some (X38.mk [] a b .e .e .e .e .e .e .e .e .e .e .e .e .e .e .e .e .e .e .e .e .e .e .e .e .e .e .e .e .e .e .e .e .e .e .e .e)
  | _ => none
def L101 : LQ := shal P T38 S101 [.tmp 4] 4000 A101
def E101 : LA := evCall P t0.fa 4000 101
theorem G101 : Good P 101 L101 E101 := good_shal all0 (by kernel_rfl) (show FT P 101 = some (c101v, 38, [.tmp 4]) by kernel_rfl) S101ok (fun l x h => by
    unfold A101 at h
    split at h
    · cases h; exact ⟨by kernel_rfl, by kernel_rfl⟩
    · cases h) 4000
inductive X52 where
  | mk (m : List Nat) (a b c d f g h i l n o p r t u w y z A B C D E F G H I J K L M N O Q R S T U W Y Z a1 b1 c1 d1 f1 g1 h1 i1 l1 n1 o1 : FV)
def T52 (x : X52) : FF := X52.rec (motive := fun _ => FF) (fun m a b c d f g h i l n o p r t u w y z A B C D E F G H I J K L M N O Q R S T U W Y Z a1 b1 c1 d1 f1 g1 h1 i1 l1 n1 o1 => ⟨(.n a (.n b (.n g (.n D .e .e .e .e) (.n U .e .e .e .e) .e .e) (.n n (.n H .e .e .e .e) (.n a1 .e .e .e .e) .e .e) (.n t (.n L .e .e .e .e) (.n f1 .e .e .e .e) .e .e) (.n z (.n Q .e .e .e .e) (.n l1 .e .e .e .e) .e .e)) (.n c (.n h (.n E .e .e .e .e) (.n W .e .e .e .e) .e .e) (.n o (.n I .e .e .e .e) (.n b1 .e .e .e .e) .e .e) (.n u (.n M .e .e .e .e) (.n g1 .e .e .e .e) .e .e) (.n A (.n R .e .e .e .e) (.n n1 .e .e .e .e) .e .e)) (.n d (.n i (.n F .e .e .e .e) (.n Y .e .e .e .e) .e .e) (.n p (.n J .e .e .e .e) (.n c1 .e .e .e .e) .e .e) (.n w (.n N .e .e .e .e) (.n h1 .e .e .e .e) .e .e) (.n B (.n S .e .e .e .e) (.n o1 .e .e .e .e) .e .e)) (.n f (.n l (.n G .e .e .e .e) (.n Z .e .e .e .e) .e .e) (.n r (.n K .e .e .e .e) (.n d1 .e .e .e .e) .e .e) (.n y (.n O .e .e .e .e) (.n i1 .e .e .e .e) .e .e) (.n C (.n T .e .e .e .e) .e .e .e))), 52, m⟩) x
def c95v : Code := bodyOf P 95
def o95x0 : Array Oper := regO (pth [0] c95v)
def r95x0 : RG X52 := fun call yl x s κ => X52.rec (motive := fun _ => MO X52) (fun m a b c d f g h i l n o p r t u w y z A B C D E F G H I J K L M N O Q R S T U W Y Z a1 b1 c1 d1 f1 g1 h1 i1 l1 n1 o1 s κ => κ (X52.mk m a b (.o (.sl none 0 0)) d f g h i l n o p r t u w y z A B C D E F G H I J K L M N O Q R S T U W Y Z a1 b1 c1 d1 f1 g1 h1 i1 l1 n1 o1) s) x s κ
theorem r95x0ok : RgOk P false o95x0 T52 r95x0 := fun _ _ x _ _ => by cases x; kernel_rfl
def o95x1 : Array Oper := regO (pth [1, 0, 0] c95v)
def r95x1 : RG X52 := fun call yl x s κ => X52.rec (motive := fun _ => MO X52) (fun m a b c d f g h i l n o p r t u w y z A B C D E F G H I J K L M N O Q R S T U W Y Z a1 b1 c1 d1 f1 g1 h1 i1 l1 n1 o1 s κ => κ (X52.mk m a b c a f g h i l n o p r t u w y z A B C D E F G H I J K L M N O Q R S T U W Y Z a1 b1 c1 d1 f1 g1 h1 i1 l1 n1 o1) s) x s κ
theorem r95x1ok : RgOk P false o95x1 T52 r95x1 := fun _ _ x _ _ => by cases x; kernel_rfl
def o95x2 : Array Oper := regO (pth [1, 0, 1, 0, 0] c95v)
def r95x2 : RG X52 := fun call yl x s κ => X52.rec (motive := fun _ => MO X52) (fun m a b c d f g h i l n o p r t u w y z A B C D E F G H I J K L M N O Q R S T U W Y Z a1 b1 c1 d1 f1 g1 h1 i1 l1 n1 o1 s κ => binC d (.i .i64 1) 3 .eql P s (fun v0 s => κ (X52.mk m a b c d v0 v0 h i l n o p r t u w y z A B C D E F G H I J K L M N O Q R S T U W Y Z a1 b1 c1 d1 f1 g1 h1 i1 l1 n1 o1) s)) x s κ
theorem r95x2ok : RgOk P false o95x2 T52 r95x2 := fun _ _ x _ _ => by cases x; kernel_rfl
def o95x3 : Array Oper := regO (pth [1, 0, 1, 0, 1, 0, 0] c95v)
def r95x3 : RG X52 := fun call yl x s κ => X52.rec (motive := fun _ => MO X52) (fun m a b c d f g h i l n o p r t u w y z A B C D E F G H I J K L M N O Q R S T U W Y Z a1 b1 c1 d1 f1 g1 h1 i1 l1 n1 o1 s κ => buildSliceC P 50 4 [(0, (.i .i64 0)), (1, (.i .i64 1)), (2, (.i .i64 4)), (3, (.i .i64 10))] s (fun v0 s => κ (X52.mk m a b v0 d f g v0 i l n o p r t u w y z A B C D E F G H I J K L M N O Q R S T U W Y Z a1 b1 c1 d1 f1 g1 h1 i1 l1 n1 o1) s)) x s κ
theorem r95x3ok : RgOk P false o95x3 T52 r95x3 := fun _ _ x _ _ => by cases x; kernel_rfl
def o95x4 : Array Oper := regO (pth [1, 0, 1, 0, 1, 1, 0, 0] c95v)
def r95x4 : RG X52 := fun call yl x s κ => X52.rec (motive := fun _ => MO X52) (fun m a b c d f g h i l n o p r t u w y z A B C D E F G H I J K L M N O Q R S T U W Y Z a1 b1 c1 d1 f1 g1 h1 i1 l1 n1 o1 s κ => binC d (.i .i64 2) 3 .eql P s (fun v0 s => κ (X52.mk m a b c d f g h v0 v0 n o p r t u w y z A B C D E F G H I J K L M N O Q R S T U W Y Z a1 b1 c1 d1 f1 g1 h1 i1 l1 n1 o1) s)) x s κ
theorem r95x4ok : RgOk P false o95x4 T52 r95x4 := fun _ _ x _ _ => by cases x; kernel_rfl
def o95x5 : Array Oper := regO (pth [1, 0, 1, 0, 1, 1, 0, 1, 1] c95v)
def r95x5 : RG X52 := fun call yl x s κ => X52.rec (motive := fun _ => MO X52) (fun m a b c d f g h i l n o p r t u w y z A B C D E F G H I J K L M N O Q R S T U W Y Z a1 b1 c1 d1 f1 g1 h1 i1 l1 n1 o1 s κ => binC d (.i .i64 3) 3 .eql P s (fun v0 s => κ (X52.mk m a b c d f g h v0 l v0 o p r t u w y z A B C D E F G H I J K L M N O Q R S T U W Y Z a1 b1 c1 d1 f1 g1 h1 i1 l1 n1 o1) s)) x s κ
theorem r95x5ok : RgOk P false o95x5 T52 r95x5 := fun _ _ x _ _ => by cases x; kernel_rfl
def o95x6 : Array Oper := regO (pth [1, 0, 1, 0, 1, 1, 1, 0, 0] c95v)
def r95x6 : RG X52 := fun call yl x s κ => X52.rec (motive := fun _ => MO X52) (fun m a b c d f g h i l n o p r t u w y z A B C D E F G H I J K L M N O Q R S T U W Y Z a1 b1 c1 d1 f1 g1 h1 i1 l1 n1 o1 s κ => buildSliceC P 50 3 [(0, (.i .i64 0)), (1, (.i .i64 1)), (2, (.i .i64 4))] s (fun v0 s => κ (X52.mk m a b v0 d f g h i l n v0 p r t u w y z A B C D E F G H I J K L M N O Q R S T U W Y Z a1 b1 c1 d1 f1 g1 h1 i1 l1 n1 o1) s)) x s κ
theorem r95x6ok : RgOk P false o95x6 T52 r95x6 := fun _ _ x _ _ => by cases x; kernel_rfl
def o95x7 : Array Oper := regO (pth [1, 0, 1, 0, 1, 1, 1, 1, 0] c95v)
def r95x7 : RG X52 := fun call yl x s κ => X52.rec (motive := fun _ => MO X52) (fun m a b c d f g h i l n o p r t u w y z A B C D E F G H I J K L M N O Q R S T U W Y Z a1 b1 c1 d1 f1 g1 h1 i1 l1 n1 o1 s κ => binC d (.i .i64 4) 3 .eql P s (fun v0 s => κ (X52.mk m a b c d f g h i l n o v0 v0 t u w y z A B C D E F G H I J K L M N O Q R S T U W Y Z a1 b1 c1 d1 f1 g1 h1 i1 l1 n1 o1) s)) x s κ
theorem r95x7ok : RgOk P false o95x7 T52 r95x7 := fun _ _ x _ _ => by cases x; kernel_rfl
def o95x8 : Array Oper := regO (pth [1, 0, 1, 0, 1, 1, 1, 1, 1, 0, 0] c95v)
def r95x8 : RG X52 := fun call yl x s κ => X52.rec (motive := fun _ => MO X52) (fun m a b c d f g h i l n o p r t u w y z A B C D E F G H I J K L M N O Q R S T U W Y Z a1 b1 c1 d1 f1 g1 h1 i1 l1 n1 o1 s κ => buildSliceC P 50 4 [(0, (.i .i64 0)), (1, (.i .i64 1)), (2, (.i .i64 4)), (3, (.i .i64 9))] s (fun v0 s => κ (X52.mk m a b v0 d f g h i l n o p r v0 u w y z A B C D E F G H I J K L M N O Q R S T U W Y Z a1 b1 c1 d1 f1 g1 h1 i1 l1 n1 o1) s)) x s κ
theorem r95x8ok : RgOk P false o95x8 T52 r95x8 := fun _ _ x _ _ => by cases x; kernel_rfl
def o95x9 : Array Oper := regO (pth [1, 0, 1, 0, 1, 1, 1, 1, 1, 1, 0] c95v)
def r95x9 : RG X52 := fun call yl x s κ => X52.rec (motive := fun _ => MO X52) (fun m a b c d f g h i l n o p r t u w y z A B C D E F G H I J K L M N O Q R S T U W Y Z a1 b1 c1 d1 f1 g1 h1 i1 l1 n1 o1 s κ => binC d (.i .i64 5) 3 .eql P s (fun v0 s => κ (X52.mk m a b c d f g h i l n o p r t v0 v0 y z A B C D E F G H I J K L M N O Q R S T U W Y Z a1 b1 c1 d1 f1 g1 h1 i1 l1 n1 o1) s)) x s κ
theorem r95x9ok : RgOk P false o95x9 T52 r95x9 := fun _ _ x _ _ => by cases x; kernel_rfl
def o95x10 : Array Oper := regO (pth [1, 0, 1, 0, 1, 1, 1, 1, 1, 1, 1, 0, 0] c95v)
def r95x10 : RG X52 := fun call yl x s κ => X52.rec (motive := fun _ => MO X52) (fun m a b c d f g h i l n o p r t u w y z A B C D E F G H I J K L M N O Q R S T U W Y Z a1 b1 c1 d1 f1 g1 h1 i1 l1 n1 o1 s κ => buildSliceC P 50 4 [(0, (.i .i64 0)), (1, (.i .i64 1)), (2, (.i .i64 4)), (3, (.i .i64 5))] s (fun v0 s => κ (X52.mk m a b v0 d f g h i l n o p r t u w v0 z A B C D E F G H I J K L M N O Q R S T U W Y Z a1 b1 c1 d1 f1 g1 h1 i1 l1 n1 o1) s)) x s κ
theorem r95x10ok : RgOk P false o95x10 T52 r95x10 := fun _ _ x _ _ => by cases x; kernel_rfl
def o95x11 : Array Oper := regO (pth [1, 0, 1, 0, 1, 1, 1, 1, 1, 1, 1, 1, 0] c95v)
def r95x11 : RG X52 := fun call yl x s κ => X52.rec (motive := fun _ => MO X52) (fun m a b c d f g h i l n o p r t u w y z A B C D E F G H I J K L M N O Q R S T U W Y Z a1 b1 c1 d1 f1 g1 h1 i1 l1 n1 o1 s κ => binC d (.i .i64 6) 3 .eql P s (fun v0 s => κ (X52.mk m a b c d f g h i l n o p r t u w y v0 v0 B C D E F G H I J K L M N O Q R S T U W Y Z a1 b1 c1 d1 f1 g1 h1 i1 l1 n1 o1) s)) x s κ
theorem r95x11ok : RgOk P false o95x11 T52 r95x11 := fun _ _ x _ _ => by cases x; kernel_rfl
def o95x12 : Array Oper := regO (pth [1, 0, 1, 0, 1, 1, 1, 1, 1, 1, 1, 1, 1, 0, 0] c95v)
def r95x12 : RG X52 := fun call yl x s κ => X52.rec (motive := fun _ => MO X52) (fun m a b c d f g h i l n o p r t u w y z A B C D E F G H I J K L M N O Q R S T U W Y Z a1 b1 c1 d1 f1 g1 h1 i1 l1 n1 o1 s κ => buildSliceC P 50 6 [(0, (.i .i64 0)), (1, (.i .i64 1)), (2, (.i .i64 7)), (3, (.i .i64 8)), (4, (.i .i64 9)), (5, (.i .i64 10))] s (fun v0 s => κ (X52.mk m a b v0 d f g h i l n o p r t u w y z A v0 C D E F G H I J K L M N O Q R S T U W Y Z a1 b1 c1 d1 f1 g1 h1 i1 l1 n1 o1) s)) x s κ
theorem r95x12ok : RgOk P false o95x12 T52 r95x12 := fun _ _ x _ _ => by cases x; kernel_rfl
def o95x13 : Array Oper := regO (pth [1, 0, 1, 0, 1, 1, 1, 1, 1, 1, 1, 1, 1, 1, 0] c95v)
def r95x13 : RG X52 := fun call yl x s κ => X52.rec (motive := fun _ => MO X52) (fun m a b c d f g h i l n o p r t u w y z A B C D E F G H I J K L M N O Q R S T U W Y Z a1 b1 c1 d1 f1 g1 h1 i1 l1 n1 o1 s κ => binC d (.i .i64 7) 3 .eql P s (fun v0 s => κ (X52.mk m a b c d f g h i l n o p r t u w y z A B v0 v0 E F G H I J K L M N O Q R S T U W Y Z a1 b1 c1 d1 f1 g1 h1 i1 l1 n1 o1) s)) x s κ
theorem r95x13ok : RgOk P false o95x13 T52 r95x13 := fun _ _ x _ _ => by cases x; kernel_rfl
def o95x14 : Array Oper := regO (pth [1, 0, 1, 0, 1, 1, 1, 1, 1, 1, 1, 1, 1, 1, 1, 0, 0] c95v)
def r95x14 : RG X52 := fun call yl x s κ => X52.rec (motive := fun _ => MO X52) (fun m a b c d f g h i l n o p r t u w y z A B C D E F G H I J K L M N O Q R S T U W Y Z a1 b1 c1 d1 f1 g1 h1 i1 l1 n1 o1 s κ => buildSliceC P 50 2 [(0, (.i .i64 0)), (1, (.i .i64 1))] s (fun v0 s => κ (X52.mk m a b v0 d f g h i l n o p r t u w y z A B C D v0 F G H I J K L M N O Q R S T U W Y Z a1 b1 c1 d1 f1 g1 h1 i1 l1 n1 o1) s)) x s κ
theorem r95x14ok : RgOk P false o95x14 T52 r95x14 := fun _ _ x _ _ => by cases x; kernel_rfl
def o95x15 : Array Oper := regO (pth [1, 0, 1, 0, 1, 1, 1, 1, 1, 1, 1, 1, 1, 1, 1, 1, 0] c95v)
def r95x15 : RG X52 := fun call yl x s κ => X52.rec (motive := fun _ => MO X52) (fun m a b c d f g h i l n o p r t u w y z A B C D E F G H I J K L M N O Q R S T U W Y Z a1 b1 c1 d1 f1 g1 h1 i1 l1 n1 o1 s κ => binC d (.i .i64 8) 3 .eql P s (fun v0 s => κ (X52.mk m a b c d f g h i l n o p r t u w y z A B C D E v0 v0 H I J K L M N O Q R S T U W Y Z a1 b1 c1 d1 f1 g1 h1 i1 l1 n1 o1) s)) x s κ
theorem r95x15ok : RgOk P false o95x15 T52 r95x15 := fun _ _ x _ _ => by cases x; kernel_rfl
def o95x16 : Array Oper := regO (pth [1, 0, 1, 0, 1, 1, 1, 1, 1, 1, 1, 1, 1, 1, 1, 1, 1, 0, 0] c95v)
def r95x16 : RG X52 := fun call yl x s κ => X52.rec (motive := fun _ => MO X52) (fun m a b c d f g h i l n o p r t u w y z A B C D E F G H I J K L M N O Q R S T U W Y Z a1 b1 c1 d1 f1 g1 h1 i1 l1 n1 o1 s κ => buildSliceC P 50 8 [(0, (.i .i64 0)), (1, (.i .i64 4)), (2, (.i .i64 5)), (3, (.i .i64 6)), (4, (.i .i64 10)), (5, (.i .i64 11)), (6, (.i .i64 12)), (7, (.i .i64 15))] s (fun v0 s => κ (X52.mk m a b v0 d f g h i l n o p r t u w y z A B C D E F G v0 I J K L M N O Q R S T U W Y Z a1 b1 c1 d1 f1 g1 h1 i1 l1 n1 o1) s)) x s κ
theorem r95x16ok : RgOk P false o95x16 T52 r95x16 := fun _ _ x _ _ => by cases x; kernel_rfl
def o95x17 : Array Oper := regO (pth [1, 0, 1, 0, 1, 1, 1, 1, 1, 1, 1, 1, 1, 1, 1, 1, 1, 1, 0] c95v)
def r95x17 : RG X52 := fun call yl x s κ => X52.rec (motive := fun _ => MO X52) (fun m a b c d f g h i l n o p r t u w y z A B C D E F G H I J K L M N O Q R S T U W Y Z a1 b1 c1 d1 f1 g1 h1 i1 l1 n1 o1 s κ => binC d (.i .i64 9) 3 .eql P s (fun v0 s => κ (X52.mk m a b c d f g h i l n o p r t u w y z A B C D E F G H v0 v0 K L M N O Q R S T U W Y Z a1 b1 c1 d1 f1 g1 h1 i1 l1 n1 o1) s)) x s κ
theorem r95x17ok : RgOk P false o95x17 T52 r95x17 := fun _ _ x _ _ => by cases x; kernel_rfl
def o95x18 : Array Oper := regO (pth [1, 0, 1, 0, 1, 1, 1, 1, 1, 1, 1, 1, 1, 1, 1, 1, 1, 1, 1, 0, 0] c95v)
def r95x18 : RG X52 := fun call yl x s κ => X52.rec (motive := fun _ => MO X52) (fun m a b c d f g h i l n o p r t u w y z A B C D E F G H I J K L M N O Q R S T U W Y Z a1 b1 c1 d1 f1 g1 h1 i1 l1 n1 o1 s κ => buildSliceC P 50 5 [(0, (.i .i64 0)), (1, (.i .i64 6)), (2, (.i .i64 11)), (3, (.i .i64 15)), (4, (.i .i64 16))] s (fun v0 s => κ (X52.mk m a b v0 d f g h i l n o p r t u w y z A B C D E F G H I J v0 L M N O Q R S T U W Y Z a1 b1 c1 d1 f1 g1 h1 i1 l1 n1 o1) s)) x s κ
theorem r95x18ok : RgOk P false o95x18 T52 r95x18 := fun _ _ x _ _ => by cases x; kernel_rfl
def o95x19 : Array Oper := regO (pth [1, 0, 1, 0, 1, 1, 1, 1, 1, 1, 1, 1, 1, 1, 1, 1, 1, 1, 1, 1, 0] c95v)
def r95x19 : RG X52 := fun call yl x s κ => X52.rec (motive := fun _ => MO X52) (fun m a b c d f g h i l n o p r t u w y z A B C D E F G H I J K L M N O Q R S T U W Y Z a1 b1 c1 d1 f1 g1 h1 i1 l1 n1 o1 s κ => binC d (.i .i64 10) 3 .eql P s (fun v0 s => κ (X52.mk m a b c d f g h i l n o p r t u w y z A B C D E F G H I J K v0 v0 N O Q R S T U W Y Z a1 b1 c1 d1 f1 g1 h1 i1 l1 n1 o1) s)) x s κ
theorem r95x19ok : RgOk P false o95x19 T52 r95x19 := fun _ _ x _ _ => by cases x; kernel_rfl
def o95x20 : Array Oper := regO (pth [1, 0, 1, 0, 1, 1, 1, 1, 1, 1, 1, 1, 1, 1, 1, 1, 1, 1, 1, 1, 1, 0, 0] c95v)
def r95x20 : RG X52 := fun call yl x s κ => X52.rec (motive := fun _ => MO X52) (fun m a b c d f g h i l n o p r t u w y z A B C D E F G H I J K L M N O Q R S T U W Y Z a1 b1 c1 d1 f1 g1 h1 i1 l1 n1 o1 s κ => buildSliceC P 50 5 [(0, (.i .i64 0)), (1, (.i .i64 6)), (2, (.i .i64 12)), (3, (.i .i64 15)), (4, (.i .i64 16))] s (fun v0 s => κ (X52.mk m a b v0 d f g h i l n o p r t u w y z A B C D E F G H I J K L M v0 O Q R S T U W Y Z a1 b1 c1 d1 f1 g1 h1 i1 l1 n1 o1) s)) x s κ
theorem r95x20ok : RgOk P false o95x20 T52 r95x20 := fun _ _ x _ _ => by cases x; kernel_rfl
def o95x21 : Array Oper := regO (pth [1, 0, 1, 0, 1, 1, 1, 1, 1, 1, 1, 1, 1, 1, 1, 1, 1, 1, 1, 1, 1, 1, 0, 0] c95v)
def r95x21 : RG X52 := fun call yl x s κ => X52.rec (motive := fun _ => MO X52) (fun m a b c d f g h i l n o p r t u w y z A B C D E F G H I J K L M N O Q R S T U W Y Z a1 b1 c1 d1 f1 g1 h1 i1 l1 n1 o1 s κ => binC d (.i .i64 11) 3 .eql P s (fun v0 s => κ (X52.mk m a b c d f g h i l n o p r t u w y z A B C D E F G H I J K L M N v0 v0 R S T U W Y Z a1 b1 c1 d1 f1 g1 h1 i1 l1 n1 o1) s)) x s κ
theorem r95x21ok : RgOk P false o95x21 T52 r95x21 := fun _ _ x _ _ => by cases x; kernel_rfl
def o95x22 : Array Oper := regO (pth [1, 0, 1, 0, 1, 1, 1, 1, 1, 1, 1, 1, 1, 1, 1, 1, 1, 1, 1, 1, 1, 1, 0, 1, 1, 0] c95v)
def r95x22 : RG X52 := fun call yl x s κ => X52.rec (motive := fun _ => MO X52) (fun m a b c d f g h i l n o p r t u w y z A B C D E F G H I J K L M N O Q R S T U W Y Z a1 b1 c1 d1 f1 g1 h1 i1 l1 n1 o1 s κ => binC d (.i .i64 12) 3 .eql P s (fun v0 s => κ (X52.mk m a b c d f g h i l n o p r t u w y z A B C D E F G H I J K L M N v0 Q v0 S T U W Y Z a1 b1 c1 d1 f1 g1 h1 i1 l1 n1 o1) s)) x s κ
theorem r95x22ok : RgOk P false o95x22 T52 r95x22 := fun _ _ x _ _ => by cases x; kernel_rfl
def o95x23 : Array Oper := regO (pth [1, 0, 1, 0, 1, 1, 1, 1, 1, 1, 1, 1, 1, 1, 1, 1, 1, 1, 1, 1, 1, 1, 0, 1, 1, 1, 1] c95v)
def r95x23 : RG X52 := fun call yl x s κ => X52.rec (motive := fun _ => MO X52) (fun m a b c d f g h i l n o p r t u w y z A B C D E F G H I J K L M N O Q R S T U W Y Z a1 b1 c1 d1 f1 g1 h1 i1 l1 n1 o1 s κ => binC d (.i .i64 14) 3 .eql P s (fun v0 s => κ (X52.mk m a b c d f g h i l n o p r t u w y z A B C D E F G H I J K L M N v0 Q R v0 T U W Y Z a1 b1 c1 d1 f1 g1 h1 i1 l1 n1 o1) s)) x s κ
theorem r95x23ok : RgOk P false o95x23 T52 r95x23 := fun _ _ x _ _ => by cases x; kernel_rfl
def o95x24 : Array Oper := regO (pth [1, 0, 1, 0, 1, 1, 1, 1, 1, 1, 1, 1, 1, 1, 1, 1, 1, 1, 1, 1, 1, 1, 1, 0, 0] c95v)
def r95x24 : RG X52 := fun call yl x s κ => X52.rec (motive := fun _ => MO X52) (fun m a b c d f g h i l n o p r t u w y z A B C D E F G H I J K L M N O Q R S T U W Y Z a1 b1 c1 d1 f1 g1 h1 i1 l1 n1 o1 s κ => buildSliceC P 50 4 [(0, (.i .i64 0)), (1, (.i .i64 12)), (2, (.i .i64 15)), (3, (.i .i64 16))] s (fun v0 s => κ (X52.mk m a b v0 d f g h i l n o p r t u w y z A B C D E F G H I J K L M N O Q R S v0 U W Y Z a1 b1 c1 d1 f1 g1 h1 i1 l1 n1 o1) s)) x s κ
theorem r95x24ok : RgOk P false o95x24 T52 r95x24 := fun _ _ x _ _ => by cases x; kernel_rfl
def o95x25 : Array Oper := regO (pth [1, 0, 1, 0, 1, 1, 1, 1, 1, 1, 1, 1, 1, 1, 1, 1, 1, 1, 1, 1, 1, 1, 1, 1, 0] c95v)
def r95x25 : RG X52 := fun call yl x s κ => X52.rec (motive := fun _ => MO X52) (fun m a b c d f g h i l n o p r t u w y z A B C D E F G H I J K L M N O Q R S T U W Y Z a1 b1 c1 d1 f1 g1 h1 i1 l1 n1 o1 s κ => binC d (.i .i64 13) 3 .eql P s (fun v0 s => κ (X52.mk m a b c d f g h i l n o p r t u w y z A B C D E F G H I J K L M N O Q R S T v0 v0 Y Z a1 b1 c1 d1 f1 g1 h1 i1 l1 n1 o1) s)) x s κ
theorem r95x25ok : RgOk P false o95x25 T52 r95x25 := fun _ _ x _ _ => by cases x; kernel_rfl
def o95x26 : Array Oper := regO (pth [1, 0, 1, 0, 1, 1, 1, 1, 1, 1, 1, 1, 1, 1, 1, 1, 1, 1, 1, 1, 1, 1, 1, 1, 1, 0, 0] c95v)
def r95x26 : RG X52 := fun call yl x s κ => X52.rec (motive := fun _ => MO X52) (fun m a b c d f g h i l n o p r t u w y z A B C D E F G H I J K L M N O Q R S T U W Y Z a1 b1 c1 d1 f1 g1 h1 i1 l1 n1 o1 s κ => buildSliceC P 50 2 [(0, (.i .i64 0)), (1, (.i .i64 15))] s (fun v0 s => κ (X52.mk m a b v0 d f g h i l n o p r t u w y z A B C D E F G H I J K L M N O Q R S T U W v0 Z a1 b1 c1 d1 f1 g1 h1 i1 l1 n1 o1) s)) x s κ
theorem r95x26ok : RgOk P false o95x26 T52 r95x26 := fun _ _ x _ _ => by cases x; kernel_rfl
def o95x27 : Array Oper := regO (pth [1, 0, 1, 0, 1, 1, 1, 1, 1, 1, 1, 1, 1, 1, 1, 1, 1, 1, 1, 1, 1, 1, 1, 1, 1, 1, 0] c95v)
def r95x27 : RG X52 := fun call yl x s κ => X52.rec (motive := fun _ => MO X52) (fun m a b c d f g h i l n o p r t u w y z A B C D E F G H I J K L M N O Q R S T U W Y Z a1 b1 c1 d1 f1 g1 h1 i1 l1 n1 o1 s κ => binC d (.i .i64 15) 3 .eql P s (fun v0 s => κ (X52.mk m a b c d f g h i l n o p r t u w y z A B C D E F G H I J K L M N O Q R S T U W Y v0 v0 b1 c1 d1 f1 g1 h1 i1 l1 n1 o1) s)) x s κ
theorem r95x27ok : RgOk P false o95x27 T52 r95x27 := fun _ _ x _ _ => by cases x; kernel_rfl
def o95x28 : Array Oper := regO (pth [1, 0, 1, 0, 1, 1, 1, 1, 1, 1, 1, 1, 1, 1, 1, 1, 1, 1, 1, 1, 1, 1, 1, 1, 1, 1, 1, 0, 0] c95v)
def r95x28 : RG X52 := fun call yl x s κ => X52.rec (motive := fun _ => MO X52) (fun m a b c d f g h i l n o p r t u w y z A B C D E F G H I J K L M N O Q R S T U W Y Z a1 b1 c1 d1 f1 g1 h1 i1 l1 n1 o1 s κ => buildSliceC P 50 4 [(0, (.i .i64 4)), (1, (.i .i64 5)), (2, (.i .i64 13)), (3, (.i .i64 14))] s (fun v0 s => κ (X52.mk m a b v0 d f g h i l n o p r t u w y z A B C D E F G H I J K L M N O Q R S T U W Y Z a1 v0 c1 d1 f1 g1 h1 i1 l1 n1 o1) s)) x s κ
theorem r95x28ok : RgOk P false o95x28 T52 r95x28 := fun _ _ x _ _ => by cases x; kernel_rfl
def o95x29 : Array Oper := regO (pth [1, 0, 1, 0, 1, 1, 1, 1, 1, 1, 1, 1, 1, 1, 1, 1, 1, 1, 1, 1, 1, 1, 1, 1, 1, 1, 1, 1, 0] c95v)
def r95x29 : RG X52 := fun call yl x s κ => X52.rec (motive := fun _ => MO X52) (fun m a b c d f g h i l n o p r t u w y z A B C D E F G H I J K L M N O Q R S T U W Y Z a1 b1 c1 d1 f1 g1 h1 i1 l1 n1 o1 s κ => binC d (.i .i64 16) 3 .eql P s (fun v0 s => κ (X52.mk m a b c d f g h i l n o p r t u w y z A B C D E F G H I J K L M N O Q R S T U W Y Z a1 b1 v0 v0 f1 g1 h1 i1 l1 n1 o1) s)) x s κ
theorem r95x29ok : RgOk P false o95x29 T52 r95x29 := fun _ _ x _ _ => by cases x; kernel_rfl
def o95x30 : Array Oper := regO (pth [1, 0, 1, 0, 1, 1, 1, 1, 1, 1, 1, 1, 1, 1, 1, 1, 1, 1, 1, 1, 1, 1, 1, 1, 1, 1, 1, 1, 1, 0, 0] c95v)
def r95x30 : RG X52 := fun call yl x s κ => X52.rec (motive := fun _ => MO X52) (fun m a b c d f g h i l n o p r t u w y z A B C D E F G H I J K L M N O Q R S T U W Y Z a1 b1 c1 d1 f1 g1 h1 i1 l1 n1 o1 s κ => buildSliceC P 50 6 [(0, (.i .i64 4)), (1, (.i .i64 5)), (2, (.i .i64 13)), (3, (.i .i64 14)), (4, (.i .i64 15)), (5, (.i .i64 16))] s (fun v0 s => κ (X52.mk m a b v0 d f g h i l n o p r t u w y z A B C D E F G H I J K L M N O Q R S T U W Y Z a1 b1 c1 d1 v0 g1 h1 i1 l1 n1 o1) s)) x s κ
theorem r95x30ok : RgOk P false o95x30 T52 r95x30 := fun _ _ x _ _ => by cases x; kernel_rfl
def o95x31 : Array Oper := regO (pth [1, 0, 1, 0, 1, 1, 1, 1, 1, 1, 1, 1, 1, 1, 1, 1, 1, 1, 1, 1, 1, 1, 1, 1, 1, 1, 1, 1, 1, 1, 0] c95v)
def r95x31 : RG X52 := fun call yl x s κ => X52.rec (motive := fun _ => MO X52) (fun m a b c d f g h i l n o p r t u w y z A B C D E F G H I J K L M N O Q R S T U W Y Z a1 b1 c1 d1 f1 g1 h1 i1 l1 n1 o1 s κ => binC d (.i .i64 17) 3 .eql P s (fun v0 s => κ (X52.mk m a b c d f g h i l n o p r t u w y z A B C D E F G H I J K L M N O Q R S T U W Y Z a1 b1 c1 d1 f1 v0 v0 i1 l1 n1 o1) s)) x s κ
theorem r95x31ok : RgOk P false o95x31 T52 r95x31 := fun _ _ x _ _ => by cases x; kernel_rfl
def o95x32 : Array Oper := regO (pth [1, 0, 1, 0, 1, 1, 1, 1, 1, 1, 1, 1, 1, 1, 1, 1, 1, 1, 1, 1, 1, 1, 1, 1, 1, 1, 1, 1, 1, 1, 1, 0, 0] c95v)
def r95x32 : RG X52 := fun call yl x s κ => X52.rec (motive := fun _ => MO X52) (fun m a b c d f g h i l n o p r t u w y z A B C D E F G H I J K L M N O Q R S T U W Y Z a1 b1 c1 d1 f1 g1 h1 i1 l1 n1 o1 s κ => buildSliceC P 50 4 [(0, (.i .i64 2)), (1, (.i .i64 3)), (2, (.i .i64 15)), (3, (.i .i64 16))] s (fun v0 s => κ (X52.mk m a b v0 d f g h i l n o p r t u w y z A B C D E F G H I J K L M N O Q R S T U W Y Z a1 b1 c1 d1 f1 g1 h1 v0 l1 n1 o1) s)) x s κ
theorem r95x32ok : RgOk P false o95x32 T52 r95x32 := fun _ _ x _ _ => by cases x; kernel_rfl
def o95x33 : Array Oper := regO (pth [1, 0, 1, 0, 1, 1, 1, 1, 1, 1, 1, 1, 1, 1, 1, 1, 1, 1, 1, 1, 1, 1, 1, 1, 1, 1, 1, 1, 1, 1, 1, 1, 0] c95v)
def r95x33 : RG X52 := fun call yl x s κ => X52.rec (motive := fun _ => MO X52) (fun m a b c d f g h i l n o p r t u w y z A B C D E F G H I J K L M N O Q R S T U W Y Z a1 b1 c1 d1 f1 g1 h1 i1 l1 n1 o1 s κ => binC d (.i .i64 18) 3 .eql P s (fun v0 s => κ (X52.mk m a b c d f g h i l n o p r t u w y z A B C D E F G H I J K L M N O Q R S T U W Y Z a1 b1 c1 d1 f1 g1 h1 i1 v0 v0 o1) s)) x s κ
theorem r95x33ok : RgOk P false o95x33 T52 r95x33 := fun _ _ x _ _ => by cases x; kernel_rfl
def o95x34 : Array Oper := regO (pth [1, 0, 1, 0, 1, 1, 1, 1, 1, 1, 1, 1, 1, 1, 1, 1, 1, 1, 1, 1, 1, 1, 1, 1, 1, 1, 1, 1, 1, 1, 1, 1, 1, 0, 0] c95v)
def r95x34 : RG X52 := fun call yl x s κ => X52.rec (motive := fun _ => MO X52) (fun m a b c d f g h i l n o p r t u w y z A B C D E F G H I J K L M N O Q R S T U W Y Z a1 b1 c1 d1 f1 g1 h1 i1 l1 n1 o1 s κ => buildSliceC P 50 2 [(0, (.i .i64 0)), (1, (.i .i64 16))] s (fun v0 s => κ (X52.mk m a b v0 d f g h i l n o p r t u w y z A B C D E F G H I J K L M N O Q R S T U W Y Z a1 b1 c1 d1 f1 g1 h1 i1 l1 n1 v0) s)) x s κ
theorem r95x34ok : RgOk P false o95x34 T52 r95x34 := fun _ _ x _ _ => by cases x; kernel_rfl
def o95x35 : Array Oper := regO (pth [1, 1, 0] c95v)
def r95x35 : RG X52 := fun call yl x s κ => X52.rec (motive := fun _ => MO X52) (fun m a b c d f g h i l n o p r t u w y z A B C D E F G H I J K L M N O Q R S T U W Y Z a1 b1 c1 d1 f1 g1 h1 i1 l1 n1 o1 s κ => κ (X52.mk m a b (.o (.sl none 0 0)) d f g h i l n o p r t u w y z A B C D E F G H I J K L M N O Q R S T U W Y Z a1 b1 c1 d1 f1 g1 h1 i1 l1 n1 o1) s) x s κ
theorem r95x35ok : RgOk P false o95x35 T52 r95x35 := fun _ _ x _ _ => by cases x; kernel_rfl
def S95 : SF X52 := (seqS (regS P t0.fq r95x0) (seqS (seqS (regS P t0.fq r95x1) (blkS 0 (seqS (regS P t0.fq r95x2) (condS (fun x => X52.rec (motive := fun _ => FV) (fun _ _ _ _ _ z _ _ _ _ _ _ _ _ _ _ _ _ _ _ _ _ _ _ _ _ _ _ _ _ _ _ _ _ _ _ _ _ _ _ _ _ _ _ _ _ _ _ _ _ _ _ _ => z) x) (seqS (regS P t0.fq r95x3) retS) (seqS (seqS (regS P t0.fq r95x4) (condS (fun x => X52.rec (motive := fun _ => FV) (fun _ _ _ _ _ _ _ _ z _ _ _ _ _ _ _ _ _ _ _ _ _ _ _ _ _ _ _ _ _ _ _ _ _ _ _ _ _ _ _ _ _ _ _ _ _ _ _ _ _ _ _ _ => z) x) skipS (regS P t0.fq r95x5))) (condS (fun x => X52.rec (motive := fun _ => FV) (fun _ _ _ _ _ _ _ _ z _ _ _ _ _ _ _ _ _ _ _ _ _ _ _ _ _ _ _ _ _ _ _ _ _ _ _ _ _ _ _ _ _ _ _ _ _ _ _ _ _ _ _ _ => z) x) (seqS (regS P t0.fq r95x6) retS) (seqS (regS P t0.fq r95x7) (condS (fun x => X52.rec (motive := fun _ => FV) (fun _ _ _ _ _ _ _ _ _ _ _ _ z _ _ _ _ _ _ _ _ _ _ _ _ _ _ _ _ _ _ _ _ _ _ _ _ _ _ _ _ _ _ _ _ _ _ _ _ _ _ _ _ => z) x) (seqS (regS P t0.fq r95x8) retS) (seqS (regS P t0.fq r95x9) (condS (fun x => X52.rec (motive := fun _ => FV) (fun _ _ _ _ _ _ _ _ _ _ _ _ _ _ _ z _ _ _ _ _ _ _ _ _ _ _ _ _ _ _ _ _ _ _ _ _ _ _ _ _ _ _ _ _ _ _ _ _ _ _ _ _ => z) x) (seqS (regS P t0.fq r95x10) retS) (seqS (regS P t0.fq r95x11) (condS (fun x => X52.rec (motive := fun _ => FV) (fun _ _ _ _ _ _ _ _ _ _ _ _ _ _ _ _ _ _ z _ _ _ _ _ _ _ _ _ _ _ _ _ _ _ _ _ _ _ _ _ _ _ _ _ _ _ _ _ _ _ _ _ _ => z) x) (seqS (regS P t0.fq r95x12) retS) (seqS (regS P t0.fq r95x13) (condS (fun x => X52.rec (motive := fun _ => FV) (fun _ _ _ _ _ _ _ _ _ _ _ _ _ _ _ _ _ _ _ _ _ z _ _ _ _ _ _ _ _ _ _ _ _ _ _ _ _ _ _ _ _ _ _ _ _ _ _ _ _ _ _ _ => z) x) (seqS (regS P t0.fq r95x14) retS) (seqS (regS P t0.fq r95x15) (condS (fun x => X52.rec (motive := fun _ => FV) (fun _ _ _ _ _ _ _ _ _ _ _ _ _ _ _ _ _ _ _ _ _ _ _ _ z _ _ _ _ _ _ _ _ _ _ _ _ _ _ _ _ _ _ _ _ _ _ _ _ _ _ _ _ => z) x) (seqS (regS P t0.fq r95x16) retS) (seqS (regS P t0.fq r95x17) (condS (fun x => X52.rec (motive := fun _ => FV) (fun _ _ _ _ _ _ _ _ _ _ _ _ _ _ _ _ _ _ _ _ _ _ _ _ _ _ _ z _ _ _ _ _ _ _ _ _ _ _ _ _ _ _ _ _ _ _ _ _ _ _ _ _ => z) x) (seqS (regS P t0.fq r95x18) retS) (seqS (regS P t0.fq r95x19) (condS (fun x => X52.rec (motive := fun _ => FV) (fun _ _ _ _ _ _ _ _ _ _ _ _ _ _ _ _ _ _ _ _ _ _ _ _ _ _ _ _ _ _ z _ _ _ _ _ _ _ _ _ _ _ _ _ _ _ _ _ _ _ _ _ _ => z) x) (seqS (regS P t0.fq r95x20) retS) (seqS (seqS (regS P t0.fq r95x21) (condS (fun x => X52.rec (motive := fun _ => FV) (fun _ _ _ _ _ _ _ _ _ _ _ _ _ _ _ _ _ _ _ _ _ _ _ _ _ _ _ _ _ _ _ _ _ z _ _ _ _ _ _ _ _ _ _ _ _ _ _ _ _ _ _ _ => z) x) skipS (seqS (regS P t0.fq r95x22) (condS (fun x => X52.rec (motive := fun _ => FV) (fun _ _ _ _ _ _ _ _ _ _ _ _ _ _ _ _ _ _ _ _ _ _ _ _ _ _ _ _ _ _ _ _ _ z _ _ _ _ _ _ _ _ _ _ _ _ _ _ _ _ _ _ _ => z) x) skipS (regS P t0.fq r95x23))))) (condS (fun x => X52.rec (motive := fun _ => FV) (fun _ _ _ _ _ _ _ _ _ _ _ _ _ _ _ _ _ _ _ _ _ _ _ _ _ _ _ _ _ _ _ _ _ z _ _ _ _ _ _ _ _ _ _ _ _ _ _ _ _ _ _ _ => z) x) (seqS (regS P t0.fq r95x24) retS) (seqS (regS P t0.fq r95x25) (condS (fun x => X52.rec (motive := fun _ => FV) (fun _ _ _ _ _ _ _ _ _ _ _ _ _ _ _ _ _ _ _ _ _ _ _ _ _ _ _ _ _ _ _ _ _ _ _ _ _ _ z _ _ _ _ _ _ _ _ _ _ _ _ _ _ => z) x) (seqS (regS P t0.fq r95x26) retS) (seqS (regS P t0.fq r95x27) (condS (fun x => X52.rec (motive := fun _ => FV) (fun _ _ _ _ _ _ _ _ _ _ _ _ _ _ _ _ _ _ _ _ _ _ _ _ _ _ _ _ _ _ _ _ _ _ _ _ _ _ _ _ _ z _ _ _ _ _ _ _ _ _ _ _ => z) x) (seqS (regS P t0.fq r95x28) retS) (seqS (regS P t0.fq r95x29) (condS (fun x => X52.rec (motive := fun _ => FV) (fun _ _ _ _ _ _ _ _ _ _ _ _ _ _ _ _ _ _ _ _ _ _ _ _ _ _ _ _ _ _ _ _ _ _ _ _ _ _ _ _ _ _ _ _ z _ _ _ _ _ _ _ _ => z) x) (seqS (regS P t0.fq r95x30) retS) (seqS (regS P t0.fq r95x31) (condS (fun x => X52.rec (motive := fun _ => FV) (fun _ _ _ _ _ _ _ _ _ _ _ _ _ _ _ _ _ _ _ _ _ _ _ _ _ _ _ _ _ _ _ _ _ _ _ _ _ _ _ _ _ _ _ _ _ _ _ z _ _ _ _ _ => z) x) (seqS (regS P t0.fq r95x32) retS) (seqS (regS P t0.fq r95x33) (condS (fun x => X52.rec (motive := fun _ => FV) (fun _ _ _ _ _ _ _ _ _ _ _ _ _ _ _ _ _ _ _ _ _ _ _ _ _ _ _ _ _ _ _ _ _ _ _ _ _ _ _ _ _ _ _ _ _ _ _ _ _ _ z _ _ => z) x) (seqS (regS P t0.fq r95x34) retS) skipS)))))))))))))))))))))))))))))))) (seqS (regS P t0.fq r95x35) retS)))
theorem S95ok : Sh P t0.fq T52 c95v S95 := by
  have e : c95v = (.seq (.region 0 o95x0 false) (.seq (.seq (.region 1 o95x1 false) (.block 0 (.seq (.region 2 o95x2 false) (.cond (.tmp 4) (.seq (.region 3 o95x3 false) .ret) (.seq (.seq (.region 4 o95x4 false) (.cond (.tmp 7) .skip (.region 5 o95x5 false))) (.cond (.tmp 7) (.seq (.region 6 o95x6 false) .ret) (.seq (.region 7 o95x7 false) (.cond (.tmp 11) (.seq (.region 8 o95x8 false) .ret) (.seq (.region 9 o95x9 false) (.cond (.tmp 14) (.seq (.region 10 o95x10 false) .ret) (.seq (.region 11 o95x11 false) (.cond (.tmp 17) (.seq (.region 12 o95x12 false) .ret) (.seq (.region 13 o95x13 false) (.cond (.tmp 20) (.seq (.region 14 o95x14 false) .ret) (.seq (.region 15 o95x15 false) (.cond (.tmp 23) (.seq (.region 16 o95x16 false) .ret) (.seq (.region 17 o95x17 false) (.cond (.tmp 26) (.seq (.region 18 o95x18 false) .ret) (.seq (.region 19 o95x19 false) (.cond (.tmp 29) (.seq (.region 20 o95x20 false) .ret) (.seq (.seq (.region 21 o95x21 false) (.cond (.tmp 32) .skip (.seq (.region 22 o95x22 false) (.cond (.tmp 32) .skip (.region 23 o95x23 false))))) (.cond (.tmp 32) (.seq (.region 24 o95x24 false) .ret) (.seq (.region 25 o95x25 false) (.cond (.tmp 37) (.seq (.region 26 o95x26 false) .ret) (.seq (.region 27 o95x27 false) (.cond (.tmp 40) (.seq (.region 28 o95x28 false) .ret) (.seq (.region 29 o95x29 false) (.cond (.tmp 43) (.seq (.region 30 o95x30 false) .ret) (.seq (.region 31 o95x31 false) (.cond (.tmp 46) (.seq (.region 32 o95x32 false) .ret) (.seq (.region 33 o95x33 false) (.cond (.tmp 49) (.seq (.region 34 o95x34 false) .ret) .skip)))))))))))))))))))))))))))))))) (.seq (.region 35 o95x35 false) .ret))) := by kernel_rfl
  rw [e]
  exact (sh_seq (sh_reg r95x0ok) (sh_seq (sh_seq (sh_reg r95x1ok) (sh_blk 0 (sh_seq (sh_reg r95x2ok) (sh_cond (fun x => by cases x; rfl) (sh_seq (sh_reg r95x3ok) sh_ret) (sh_seq (sh_seq (sh_reg r95x4ok) (sh_cond (fun x => by cases x; rfl) sh_skip (sh_reg r95x5ok))) (sh_cond (fun x => by cases x; rfl) (sh_seq (sh_reg r95x6ok) sh_ret) (sh_seq (sh_reg r95x7ok) (sh_cond (fun x => by cases x; rfl) (sh_seq (sh_reg r95x8ok) sh_ret) (sh_seq (sh_reg r95x9ok) (sh_cond (fun x => by cases x; rfl) (sh_seq (sh_reg r95x10ok) sh_ret) (sh_seq (sh_reg r95x11ok) (sh_cond (fun x => by cases x; rfl) (sh_seq (sh_reg r95x12ok) sh_ret) (sh_seq (sh_reg r95x13ok) (sh_cond (fun x => by cases x; rfl) (sh_seq (sh_reg r95x14ok) sh_ret) (sh_seq (sh_reg r95x15ok) (sh_cond (fun x => by cases x; rfl) (sh_seq (sh_reg r95x16ok) sh_ret) (sh_seq (sh_reg r95x17ok) (sh_cond (fun x => by cases x; rfl) (sh_seq (sh_reg r95x18ok) sh_ret) (sh_seq (sh_reg r95x19ok) (sh_cond (fun x => by cases x; rfl) (sh_seq (sh_reg r95x20ok) sh_ret) (sh_seq (sh_seq (sh_reg r95x21ok) (sh_cond (fun x => by cases x; rfl) sh_skip (sh_seq (sh_reg r95x22ok) (sh_cond (fun x => by cases x; rfl) sh_skip (sh_reg r95x23ok))))) (sh_cond (fun x => by cases x; rfl) (sh_seq (sh_reg r95x24ok) sh_ret) (sh_seq (sh_reg r95x25ok) (sh_cond (fun x => by cases x; rfl) (sh_seq (sh_reg r95x26ok) sh_ret) (sh_seq (sh_reg r95x27ok) (sh_cond (fun x => by cases x; rfl) (sh_seq (sh_reg r95x28ok) sh_ret) (sh_seq (sh_reg r95x29ok) (sh_cond (fun x => by cases x; rfl) (sh_seq (sh_reg r95x30ok) sh_ret) (sh_seq (sh_reg r95x31ok) (sh_cond (fun x => by cases x; rfl) (sh_seq (sh_reg r95x32ok) sh_ret) (sh_seq (sh_reg r95x33ok) (sh_cond (fun x => by cases x; rfl) (sh_seq (sh_reg r95x34ok) sh_ret) sh_skip)))))))))))))))))))))))))))))))) (sh_seq (sh_reg r95x35ok) sh_ret)))
def A95 : List FV → Option X52 := fun l => match l with
  | [a] => some (X52.mk [] a .e .e .e .e .e .e .e .e .e .e .e .e .e .e .e .e .e .e .e .e .e .e .e .e .e .e .e .e .e .e .e .e .e .e .e .e .e .e .e .e .e .e .e .e .e .e .e .e .e .e .e)
  | _ => none
def L95 : LQ := shal P T52 S95 [.tmp 2] 4000 A95
def E95 : LA := evCall P t0.fa 4000 95
theorem G95 : Good P 95 L95 E95 := good_shal all0 (by kernel_rfl) (show FT P 95 = some (c95v, 52, [.tmp 2]) by kernel_rfl) S95ok (fun l x h => by
    unfold A95 at h
    split at h
    · cases h; exact ⟨by kernel_rfl, by kernel_rfl⟩
    · cases h) 4000
inductive X26 where
  | mk (m : List Nat) (a b c d f g h i l n o p r t u w y z A B C D E F G H : FV)
def T26 (x : X26) : FF := X26.rec (motive := fun _ => FF) (fun m a b c d f g h i l n o p r t u w y z A B C D E F G H => ⟨(.n a (.n b (.n g (.n D .e .e .e .e) .e .e .e) (.n n (.n H .e .e .e .e) .e .e .e) (.n t .e .e .e .e) (.n z .e .e .e .e)) (.n c (.n h (.n E .e .e .e .e) .e .e .e) (.n o .e .e .e .e) (.n u .e .e .e .e) (.n A .e .e .e .e)) (.n d (.n i (.n F .e .e .e .e) .e .e .e) (.n p .e .e .e .e) (.n w .e .e .e .e) (.n B .e .e .e .e)) (.n f (.n l (.n G .e .e .e .e) .e .e .e) (.n r .e .e .e .e) (.n y .e .e .e .e) (.n C .e .e .e .e))), 26, m⟩) x
def c72v : Code := bodyOf P 72
def o72x0 : Array Oper := regO (pth [0] c72v)
def r72x0 : RG X26 := fun call yl x s κ => X26.rec (motive := fun _ => MO X26) (fun m a b c d f g h i l n o p r t u w y z A B C D E F G H s κ => κ (X26.mk m a b c d (.b false) g h i l n o p r t u w y z A B C D E F G H) s) x s κ
theorem r72x0ok : RgOk P false o72x0 T26 r72x0 := fun _ _ x _ _ => by cases x; kernel_rfl
def o72x1 : Array Oper := regO (pth [1, 0, 0] c72v)
def r72x1 : RG X26 := fun call yl x s κ => X26.rec (motive := fun _ => MO X26) (fun m a b c d f g h i l n o p r t u w y z A B C D E F G H s κ => lenC a P 32 s (fun v0 s => lenC b P 32 s (fun v1 s => binC v0 v1 3 .neq P s (fun v2 s => κ (X26.mk m a b c d f g a v0 b v1 v2 p r t u w y z A B C D E F G H) s)))) x s κ
theorem r72x1ok : RgOk P false o72x1 T26 r72x1 := fun _ _ x _ _ => by cases x; kernel_rfl
def o72x2 : Array Oper := regO (pth [1, 0, 1, 0, 0] c72v)
def r72x2 : RG X26 := fun call yl x s κ => X26.rec (motive := fun _ => MO X26) (fun m a b c d f g h i l n o p r t u w y z A B C D E F G H s κ => κ (X26.mk m a b c d (.b false) g h i l n o p r t u w y z A B C D E F G H) s) x s κ
theorem r72x2ok : RgOk P false o72x2 T26 r72x2 := fun _ _ x _ _ => by cases x; kernel_rfl
def o72x3 : Array Oper := regO (pth [1, 1, 0, 0] c72v)
def r72x3 : RG X26 := fun call yl x s κ => X26.rec (motive := fun _ => MO X26) (fun m a b c d f g h i l n o p r t u w y z A B C D E F G H s κ => κ (X26.mk m a b c d f (.i .i64 0) h i l n o p r t u w y z A B C D E F G H) s) x s κ
theorem r72x3ok : RgOk P false o72x3 T26 r72x3 := fun _ _ x _ _ => by cases x; kernel_rfl
def o72x4 : Array Oper := regO (pth [1, 1, 0, 1, 0, 0, 0, 0] c72v)
def r72x4 : RG X26 := fun call yl x s κ => X26.rec (motive := fun _ => MO X26) (fun m a b c d f g h i l n o p r t u w y z A B C D E F G H s κ => lenC a P 32 s (fun v0 s => binC g v0 3 .lss P s (fun v1 s => κ (X26.mk m a b c d f g h i l n o g a v0 v1 w y z A B C D E F G H) s))) x s κ
theorem r72x4ok : RgOk P false o72x4 T26 r72x4 := fun _ _ x _ _ => by cases x; kernel_rfl
def o72x5 : Array Oper := regO (pth [1, 1, 0, 1, 0, 0, 1, 0, 0, 0] c72v)
def r72x5 : RG X26 := fun call yl x s κ => X26.rec (motive := fun _ => MO X26) (fun m a b c d f g h i l n o p r t u w y z A B C D E F G H s κ => (fun qv0 => (fun qv1 => sandS (fun s κ1 => natK g fun j => iaS a j 1 s (κ1)) s (fun qv2 v3 s => sandS (fun s κ1 => ldV v3 false 1 s (κ1)) s (fun qv4 v5 s => (fun qv6 => (fun qv7 => sandS (fun s κ1 => natK g fun j => iaS b j 1 s (κ1)) s (fun qv8 v9 s => sandS (fun s κ1 => ldV v9 false 1 s (κ1)) s (fun qv10 v11 s => sandS (fun s κ1 => binC v5 v11 5 .neq P s (κ1)) s (fun qv12 v13 s => V.iff (dynA [] [qv0, qv1, qv2, qv4, qv6, qv7, qv8, qv10, qv12] [[], [true], [false, false], [false, false, false], [true, true, true, true], [true, true, true, true, true], [true, true, true, true, false, false], [true, true, true, true, false, false, false], [false, false, false, false, false, false, false, false]]) (κ (X26.mk m a b c d f g h i l n o p r t u w y a g v3 v5 b g v9 v11 v13) s))))) (qz s)) (qz s)))) (qz s)) (qz s)) x s κ
theorem r72x5ok : RgOk P true o72x5 T26 r72x5 := fun _ _ x _ _ => by cases x; kernel_rfl
def o72x6 : Array Oper := regO (pth [1, 1, 0, 1, 0, 0, 1, 0, 0, 1, 0, 0] c72v)
def r72x6 : RG X26 := fun call yl x s κ => X26.rec (motive := fun _ => MO X26) (fun m a b c d f g h i l n o p r t u w y z A B C D E F G H s κ => κ (X26.mk m a b c d (.b false) g h i l n o p r t u w y z A B C D E F G H) s) x s κ
theorem r72x6ok : RgOk P false o72x6 T26 r72x6 := fun _ _ x _ _ => by cases x; kernel_rfl
def o72x7 : Array Oper := regO (pth [1, 1, 0, 1, 0, 0, 1, 1] c72v)
def r72x7 : RG X26 := fun call yl x s κ => X26.rec (motive := fun _ => MO X26) (fun m a b c d f g h i l n o p r t u w y z A B C D E F G H s κ => binC g (.i .i64 1) 3 .add P s (fun v0 s => κ (X26.mk m a b c d f v0 h i l n o p r t u g v0 z A B C D E F G H) s)) x s κ
theorem r72x7ok : RgOk P false o72x7 T26 r72x7 := fun _ _ x _ _ => by cases x; kernel_rfl
def o72x8 : Array Oper := regO (pth [1, 1, 1, 0] c72v)
def r72x8 : RG X26 := fun call yl x s κ => X26.rec (motive := fun _ => MO X26) (fun m a b c d f g h i l n o p r t u w y z A B C D E F G H s κ => κ (X26.mk m a b c d (.b true) g h i l n o p r t u w y z A B C D E F G H) s) x s κ
theorem r72x8ok : RgOk P false o72x8 T26 r72x8 := fun _ _ x _ _ => by cases x; kernel_rfl
def S72 : SF X26 := (seqS (regS P t0.fq r72x0) (seqS (seqS (regS P t0.fq r72x1) (condS (fun x => X26.rec (motive := fun _ => FV) (fun _ _ _ _ _ _ _ _ _ _ _ z _ _ _ _ _ _ _ _ _ _ _ _ _ _ _ => z) x) (seqS (regS P t0.fq r72x2) retS) skipS)) (seqS (seqS (regS P t0.fq r72x3) (blkS 0 (loopS (seqS (seqS (regS P t0.fq r72x4) (condS (fun x => X26.rec (motive := fun _ => FV) (fun _ _ _ _ _ _ _ _ _ _ _ _ _ _ _ z _ _ _ _ _ _ _ _ _ _ _ => z) x) skipS (exitS 0))) (seqS (blkS 1 (seqS (regS P t0.fq r72x5) (condS (fun x => X26.rec (motive := fun _ => FV) (fun _ _ _ _ _ _ _ _ _ _ _ _ _ _ _ _ _ _ _ _ _ _ _ _ _ _ z => z) x) (seqS (regS P t0.fq r72x6) retS) skipS))) (regS P t0.fq r72x7)))))) (seqS (regS P t0.fq r72x8) retS))))
theorem S72ok : Sh P t0.fq T26 c72v S72 := by
  have e : c72v = (.seq (.region 0 o72x0 false) (.seq (.seq (.region 1 o72x1 false) (.cond (.tmp 10) (.seq (.region 2 o72x2 false) .ret) .skip)) (.seq (.seq (.region 3 o72x3 false) (.block 0 (.loop (.seq (.seq (.region 4 o72x4 false) (.cond (.tmp 14) .skip (.exit 0))) (.seq (.block 1 (.seq (.region 6 o72x5 true) (.cond (.tmp 25) (.seq (.region 7 o72x6 false) .ret) .skip))) (.region 5 o72x7 false)))))) (.seq (.region 8 o72x8 false) .ret)))) := by kernel_rfl
  rw [e]
  exact (sh_seq (sh_reg r72x0ok) (sh_seq (sh_seq (sh_reg r72x1ok) (sh_cond (fun x => by cases x; rfl) (sh_seq (sh_reg r72x2ok) sh_ret) sh_skip)) (sh_seq (sh_seq (sh_reg r72x3ok) (sh_blk 0 (sh_loop (sh_seq (sh_seq (sh_reg r72x4ok) (sh_cond (fun x => by cases x; rfl) sh_skip (sh_exit 0))) (sh_seq (sh_blk 1 (sh_seq (sh_reg r72x5ok) (sh_cond (fun x => by cases x; rfl) (sh_seq (sh_reg r72x6ok) sh_ret) sh_skip))) (sh_reg r72x7ok)))))) (sh_seq (sh_reg r72x8ok) sh_ret))))
def A72 : List FV → Option X26 := fun l => match l with
  | [a, b] => some (X26.mk [] a b .e .e .e .e .e .e .e .e .e .e .e .e .e .e .e .e .e .e .e .e .e .e .e .e)
  | _ => none
def L72 : LQ := shal P T26 S72 [.tmp 4] 4000 A72
def E72 : LA := evCall P t0.fa 4000 72
theorem G72 : Good P 72 L72 E72 := good_shal all0 (by kernel_rfl) (show FT P 72 = some (c72v, 26, [.tmp 4]) by kernel_rfl) S72ok (fun l x h => by
    unfold A72 at h
    split at h
    · cases h; exact ⟨by kernel_rfl, by kernel_rfl⟩
    · cases h) 4000
inductive X20 where
  | mk (m : List Nat) (a b c d f g h i l n o p r t u w y z A B : FV)
def T20 (x : X20) : FF := X20.rec (motive := fun _ => FF) (fun m a b c d f g h i l n o p r t u w y z A B => ⟨(.n a (.n b (.n g .e .e .e .e) (.n n .e .e .e .e) (.n t .e .e .e .e) (.n z .e .e .e .e)) (.n c (.n h .e .e .e .e) (.n o .e .e .e .e) (.n u .e .e .e .e) (.n A .e .e .e .e)) (.n d (.n i .e .e .e .e) (.n p .e .e .e .e) (.n w .e .e .e .e) (.n B .e .e .e .e)) (.n f (.n l .e .e .e .e) (.n r .e .e .e .e) (.n y .e .e .e .e) .e)), 20, m⟩) x
def c48v : Code := bodyOf P 48
def o48x0 : Array Oper := regO (pth [0] c48v)
def r48x0 : RG X20 := fun call yl x s κ => X20.rec (motive := fun _ => MO X20) (fun m a b c d f g h i l n o p r t u w y z A B s κ => κ (X20.mk m a b (.o (.sl none 0 0)) d f g h i l n o p r t u w y z A B) s) x s κ
theorem r48x0ok : RgOk P false o48x0 T20 r48x0 := fun _ _ x _ _ => by cases x; kernel_rfl
def o48x1 : Array Oper := regO (pth [1, 0] c48v)
def r48x1 : RG X20 := fun call yl x s κ => X20.rec (motive := fun _ => MO X20) (fun m a b c d f g h i l n o p r t u w y z A B s κ => buildSliceC P 32 0 [] s (fun v0 s => κ (X20.mk m a b c v0 f v0 h i l n o p r t u w y z A B) s)) x s κ
theorem r48x1ok : RgOk P false o48x1 T20 r48x1 := fun _ _ x _ _ => by cases x; kernel_rfl
def o48x2 : Array Oper := regO (pth [1, 1, 0, 0] c48v)
def r48x2 : RG X20 := fun call yl x s κ => X20.rec (motive := fun _ => MO X20) (fun m a b c d f g h i l n o p r t u w y z A B s κ => κ (X20.mk m a b c d (.i .i64 0) g h i l n o p r t u w y z A B) s) x s κ
theorem r48x2ok : RgOk P false o48x2 T20 r48x2 := fun _ _ x _ _ => by cases x; kernel_rfl
def o48x3 : Array Oper := regO (pth [1, 1, 0, 1, 0, 0, 0, 0] c48v)
def r48x3 : RG X20 := fun call yl x s κ => X20.rec (motive := fun _ => MO X20) (fun m a b c d f g h i l n o p r t u w y z A B s κ => binC f (.i .i64 8) 3 .lss P s (fun v0 s => κ (X20.mk m a b c d f g f v0 l n o p r t u w y z A B) s)) x s κ
theorem r48x3ok : RgOk P false o48x3 T20 r48x3 := fun _ _ x _ _ => by cases x; kernel_rfl
def o48x4 : Array Oper := regO (pth [1, 1, 0, 1, 0, 0, 1, 0, 0] c48v)
def r48x4 : RG X20 := fun call yl x s κ => X20.rec (motive := fun _ => MO X20) (fun m a b c d f g h i l n o p r t u w y z A B s κ => cvV a .u64 s (fun v0 s => binC (.i .i64 8) f 3 .mul P s (fun v1 s => binC v0 v1 122 .shr P s (fun v2 s => cvV v2 .u8 s (fun v3 s => buildSliceC P 32 1 [(0, v3)] s (fun v4 s => appendC P 32 32 d v4 s (fun v5 s => κ (X20.mk m a b c v5 f g h i l n d a v0 f v1 v2 v3 v4 v5 B) s))))))) x s κ
theorem r48x4ok : RgOk P false o48x4 T20 r48x4 := fun _ _ x _ _ => by cases x; kernel_rfl
def o48x5 : Array Oper := regO (pth [1, 1, 0, 1, 0, 0, 1, 1] c48v)
def r48x5 : RG X20 := fun call yl x s κ => X20.rec (motive := fun _ => MO X20) (fun m a b c d f g h i l n o p r t u w y z A B s κ => binC f (.i .i64 1) 3 .add P s (fun v0 s => κ (X20.mk m a b c d v0 g h i f v0 o p r t u w y z A B) s)) x s κ
theorem r48x5ok : RgOk P false o48x5 T20 r48x5 := fun _ _ x _ _ => by cases x; kernel_rfl
def o48x6 : Array Oper := regO (pth [1, 1, 1, 0] c48v)
def r48x6 : RG X20 := fun call yl x s κ => X20.rec (motive := fun _ => MO X20) (fun m a b c d f g h i l n o p r t u w y z A B s κ => κ (X20.mk m a b d d f g h i l n o p r t u w y z A d) s) x s κ
theorem r48x6ok : RgOk P false o48x6 T20 r48x6 := fun _ _ x _ _ => by cases x; kernel_rfl
def S48 : SF X20 := (seqS (regS P t0.fq r48x0) (seqS (regS P t0.fq r48x1) (seqS (seqS (regS P t0.fq r48x2) (blkS 0 (loopS (seqS (seqS (regS P t0.fq r48x3) (condS (fun x => X20.rec (motive := fun _ => FV) (fun _ _ _ _ _ _ _ _ z _ _ _ _ _ _ _ _ _ _ _ _ => z) x) skipS (exitS 0))) (seqS (blkS 1 (regS P t0.fq r48x4)) (regS P t0.fq r48x5)))))) (seqS (regS P t0.fq r48x6) retS))))
theorem S48ok : Sh P t0.fq T20 c48v S48 := by
  have e : c48v = (.seq (.region 0 o48x0 false) (.seq (.region 1 o48x1 false) (.seq (.seq (.region 2 o48x2 false) (.block 0 (.loop (.seq (.seq (.region 3 o48x3 false) (.cond (.tmp 7) .skip (.exit 0))) (.seq (.block 1 (.region 5 o48x4 false)) (.region 4 o48x5 false)))))) (.seq (.region 6 o48x6 false) .ret)))) := by kernel_rfl
  rw [e]
  exact (sh_seq (sh_reg r48x0ok) (sh_seq (sh_reg r48x1ok) (sh_seq (sh_seq (sh_reg r48x2ok) (sh_blk 0 (sh_loop (sh_seq (sh_seq (sh_reg r48x3ok) (sh_cond (fun x => by cases x; rfl) sh_skip (sh_exit 0))) (sh_seq (sh_blk 1 (sh_reg r48x4ok)) (sh_reg r48x5ok)))))) (sh_seq (sh_reg r48x6ok) sh_ret))))
def A48 : List FV → Option X20 := fun l => match l with
  | [a] => some (X20.mk [] a .e .e .e .e .e .e .e .e .e .e .e .e .e .e .e .e .e .e .e)
  | _ => none
def L48 : LQ := shal P T20 S48 [.tmp 2] 4000 A48
def E48 : LA := evCall P t0.fa 4000 48
theorem G48 : Good P 48 L48 E48 := good_shal all0 (by kernel_rfl) (show FT P 48 = some (c48v, 20, [.tmp 2]) by kernel_rfl) S48ok (fun l x h => by
    unfold A48 at h
    split at h
    · cases h; exact ⟨by kernel_rfl, by kernel_rfl⟩
    · cases h) 4000
inductive X40 where
  | mk (m : List Nat) (a b c d f g h i l n o p r t u w y z A B C D E F G H I J K L M N O Q R S T U W Y : FV)
def T40 (x : X40) : FF := X40.rec (motive := fun _ => FF) (fun m a b c d f g h i l n o p r t u w y z A B C D E F G H I J K L M N O Q R S T U W Y => ⟨(.n a (.n b (.n g (.n D .e .e .e .e) (.n U .e .e .e .e) .e .e) (.n n (.n H .e .e .e .e) .e .e .e) (.n t (.n L .e .e .e .e) .e .e .e) (.n z (.n Q .e .e .e .e) .e .e .e)) (.n c (.n h (.n E .e .e .e .e) (.n W .e .e .e .e) .e .e) (.n o (.n I .e .e .e .e) .e .e .e) (.n u (.n M .e .e .e .e) .e .e .e) (.n A (.n R .e .e .e .e) .e .e .e)) (.n d (.n i (.n F .e .e .e .e) (.n Y .e .e .e .e) .e .e) (.n p (.n J .e .e .e .e) .e .e .e) (.n w (.n N .e .e .e .e) .e .e .e) (.n B (.n S .e .e .e .e) .e .e .e)) (.n f (.n l (.n G .e .e .e .e) .e .e .e) (.n r (.n K .e .e .e .e) .e .e .e) (.n y (.n O .e .e .e .e) .e .e .e) (.n C (.n T .e .e .e .e) .e .e .e))), 40, m⟩) x
def c58v : Code := bodyOf P 58
def o58x0 : Array Oper := regO (pth [0] c58v)
def r58x0 : RG X40 := fun call yl x s κ => X40.rec (motive := fun _ => MO X40) (fun m a b c d f g h i l n o p r t u w y z A B C D E F G H I J K L M N O Q R S T U W Y s κ => allocC P 117 s (fun v0 s => κ (X40.mk m a b v0 d f g h i l n o p r t u w y z A B C D E F G H I J K L M N O Q R S T U W Y) s)) x s κ
theorem r58x0ok : RgOk P false o58x0 T40 r58x0 := fun _ _ x _ _ => by cases x; kernel_rfl
def o58x1 : Array Oper := regO (pth [1, 0] c58v)
def r58x1 : RG X40 := fun call yl x s κ => X40.rec (motive := fun _ => MO X40) (fun m a b c d f g h i l n o p r t u w y z A B C D E F G H I J K L M N O Q R S T U W Y s κ => (fun qv0 => sandS (fun s κ1 => nilC a s (κ1)) s (fun qv1 v2 s => sandS (fun s κ1 => ptrK v2 3 s (κ1)) s (fun qv3 v4 s => (fun qv5 => sandS (fun s κ1 => nilC a s (κ1)) s (fun qv6 v7 s => sandS (fun s κ1 => ptrK v7 4 s (κ1)) s (fun qv8 v9 s => (fun qv10 => sandS (fun s κ1 => nilC a s (κ1)) s (fun qv11 v12 s => sandS (fun s κ1 => ptrK v12 5 s (κ1)) s (fun qv13 v14 s => (fun qv15 => sandS (fun s κ1 => nilC a s (κ1)) s (fun qv16 v17 s => sandS (fun s κ1 => ptrK v17 6 s (κ1)) s (fun qv18 v19 s => (fun qv20 => sandS (fun s κ1 => nilC a s (κ1)) s (fun qv21 v22 s => sandS (fun s κ1 => ptrK v22 7 s (κ1)) s (fun qv23 v24 s => (fun qv25 => sandS (fun s κ1 => nilC a s (κ1)) s (fun qv26 v27 s => sandS (fun s κ1 => ptrK v27 8 s (κ1)) s (fun qv28 v29 s => (fun qv30 => sandS (fun s κ1 => nilC a s (κ1)) s (fun qv31 v32 s => sandS (fun s κ1 => ptrK v32 9 s (κ1)) s (fun qv33 v34 s => (fun qv35 => sandS (fun s κ1 => nilC a s (κ1)) s (fun qv36 v37 s => sandS (fun s κ1 => ptrK v37 10 s (κ1)) s (fun qv38 v39 s => (fun qv40 => sandS (fun s κ1 => nilC a s (κ1)) s (fun qv41 v42 s => sandS (fun s κ1 => ptrK v42 11 s (κ1)) s (fun qv43 v44 s => (fun qv45 => sandS (fun s κ1 => nilC a s (κ1)) s (fun qv46 v47 s => sandS (fun s κ1 => ptrK v47 24 s (κ1)) s (fun qv48 v49 s => (fun qv50 => sandS (fun s κ1 => nilC a s (κ1)) s (fun qv51 v52 s => sandS (fun s κ1 => ptrK v52 25 s (κ1)) s (fun qv53 v54 s => (fun qv55 => sandS (fun s κ1 => nilC a s (κ1)) s (fun qv56 v57 s => sandS (fun s κ1 => ptrK v57 26 s (κ1)) s (fun qv58 v59 s => sandS (fun s κ1 => buildC P 117 [(0, v4), (1, v9), (2, v14), (3, v19), (4, v24), (5, v29), (6, v34), (7, v39), (8, v44), (11, v49), (12, v54), (13, v59)] s (κ1)) s (fun qv60 v61 s => sandS (fun s κ1 => stA c v61 17 s (κ1)) s (fun qv62 v63 s => V.iff (dynA [] [qv0, qv1, qv3, qv5, qv6, qv8, qv10, qv11, qv13, qv15, qv16, qv18, qv20, qv21, qv23, qv25, qv26, qv28, qv30, qv31, qv33, qv35, qv36, qv38, qv40, qv41, qv43, qv45, qv46, qv48, qv50, qv51, qv53, qv55, qv56, qv58, qv60, qv62] [[], [false], [false, false], [true, true, true], [true, true, true, false], [true, true, true, false, false], [true, true, true, true, true, true], [true, true, true, true, true, true, false], [true, true, true, true, true, true, false, false], [true, true, true, true, true, true, true, true, true], [true, true, true, true, true, true, true, true, true, false], [true, true, true, true, true, true, true, true, true, false, false], [true, true, true, true, true, true, true, true, true, true, true, true], [true, true, true, true, true, true, true, true, true, true, true, true, false], [true, true, true, true, true, true, true, true, true, true, true, true, false, false], [true, true, true, true, true, true, true, true, true, true, true, true, true, true, true], [true, true, true, true, true, true, true, true, true, true, true, true, true, true, true, false], [true, true, true, true, true, true, true, true, true, true, true, true, true, true, true, false, false], [true, true, true, true, true, true, true, true, true, true, true, true, true, true, true, true, true, true], [true, true, true, true, true, true, true, true, true, true, true, true, true, true, true, true, true, true, false], [true, true, true, true, true, true, true, true, true, true, true, true, true, true, true, true, true, true, false, false], [true, true, true, true, true, true, true, true, true, true, true, true, true, true, true, true, true, true, true, true, true], [true, true, true, true, true, true, true, true, true, true, true, true, true, true, true, true, true, true, true, true, true, false], [true, true, true, true, true, true, true, true, true, true, true, true, true, true, true, true, true, true, true, true, true, false, false], [true, true, true, true, true, true, true, true, true, true, true, true, true, true, true, true, true, true, true, true, true, true, true, true], [true, true, true, true, true, true, true, true, true, true, true, true, true, true, true, true, true, true, true, true, true, true, true, true, false], [true, true, true, true, true, true, true, true, true, true, true, true, true, true, true, true, true, true, true, true, true, true, true, true, false, false], [true, true, true, true, true, true, true, true, true, true, true, true, true, true, true, true, true, true, true, true, true, true, true, true, true, true, true], [true, true, true, true, true, true, true, true, true, true, true, true, true, true, true, true, true, true, true, true, true, true, true, true, true, true, true, false], [true, true, true, true, true, true, true, true, true, true, true, true, true, true, true, true, true, true, true, true, true, true, true, true, true, true, true, false, false], [true, true, true, true, true, true, true, true, true, true, true, true, true, true, true, true, true, true, true, true, true, true, true, true, true, true, true, true, true, true], [true, true, true, true, true, true, true, true, true, true, true, true, true, true, true, true, true, true, true, true, true, true, true, true, true, true, true, true, true, true, false], [true, true, true, true, true, true, true, true, true, true, true, true, true, true, true, true, true, true, true, true, true, true, true, true, true, true, true, true, true, true, false, false], [true, true, true, true, true, true, true, true, true, true, true, true, true, true, true, true, true, true, true, true, true, true, true, true, true, true, true, true, true, true, true, true, true], [true, true, true, true, true, true, true, true, true, true, true, true, true, true, true, true, true, true, true, true, true, true, true, true, true, true, true, true, true, true, true, true, true, false], [true, true, true, true, true, true, true, true, true, true, true, true, true, true, true, true, true, true, true, true, true, true, true, true, true, true, true, true, true, true, true, true, true, false, false], [false, false, false, false, false, false, false, false, false, false, false, false, false, false, false, false, false, false, false, false, false, false, false, false, false, false, false, false, false, false, false, false, false, false, false, false], [false, false, false, false, false, false, false, false, false, false, false, false, false, false, false, false, false, false, false, false, false, false, false, false, false, false, false, false, false, false, false, false, false, false, false, false, false]]) (κ (X40.mk m a b c a v2 v4 a v7 v9 a v12 v14 a v17 v19 a v22 v24 a v27 v29 a v32 v34 a v37 v39 a v42 v44 a v47 v49 a v52 v54 a v57 v59 v61) s)))))) (qz s)))) (qz s)))) (qz s)))) (qz s)))) (qz s)))) (qz s)))) (qz s)))) (qz s)))) (qz s)))) (qz s)))) (qz s)))) (qz s)) x s κ
theorem r58x1ok : RgOk P true o58x1 T40 r58x1 := fun _ _ x _ _ => by cases x; kernel_rfl
def S58 : SF X40 := (seqS (regS P t0.fq r58x0) (seqS (regS P t0.fq r58x1) retS))
theorem S58ok : Sh P t0.fq T40 c58v S58 := by
  have e : c58v = (.seq (.region 0 o58x0 false) (.seq (.region 1 o58x1 true) .ret)) := by kernel_rfl
  rw [e]
  exact (sh_seq (sh_reg r58x0ok) (sh_seq (sh_reg r58x1ok) sh_ret))
def A58 : List FV → Option X40 := fun l => match l with
  | [a] => some (X40.mk [] a .e .e .e .e .e .e .e .e .e .e .e .e .e .e .e .e .e .e .e .e .e .e .e .e .e .e .e .e .e .e .e .e .e .e .e .e .e .e .e)
  | _ => none
def L58 : LQ := shal P T40 S58 [.cell 2 117] 4000 A58
def E58 : LA := evCall P t0.fa 4000 58
theorem G58 : Good P 58 L58 E58 := good_shal all0 (by kernel_rfl) (show FT P 58 = some (c58v, 40, [.cell 2 117]) by kernel_rfl) S58ok (fun l x h => by
    unfold A58 at h
    split at h
    · cases h; exact ⟨by kernel_rfl, by kernel_rfl⟩
    · cases h) 4000
def c49v : Code := bodyOf P 49
def o49x0 : Array Oper := regO (pth [0] c49v)
def r49x0 : RG X30 := fun call yl x s κ => X30.rec (motive := fun _ => MO X30) (fun m a b c d f g h i l n o p r t u w y z A B C D E F G H I J K L s κ => bxV a 34 s (fun v0 s => κ (X30.mk m a b v0 d (.o (.sl none 0 0)) g h i l n o p r t u w y z A B C D E F G H I J K L) s)) x s κ
theorem r49x0ok : RgOk P false o49x0 T30 r49x0 := fun _ _ x _ _ => by cases x; kernel_rfl
def o49x1 : Array Oper := regO (pth [1, 0] c49v)
def r49x1 : RG X30 := fun call yl x s κ => X30.rec (motive := fun _ => MO X30) (fun m a b c d f g h i l n o p r t u w y z A B C D E F G H I J K L s κ => buildSliceC P 32 0 [] s (fun v0 s => κ (X30.mk m a b c d f v0 h i v0 n o p r t u w y z A B C D E F G H I J K L) s)) x s κ
theorem r49x1ok : RgOk P false o49x1 T30 r49x1 := fun _ _ x _ _ => by cases x; kernel_rfl
def o49x2 : Array Oper := regO (pth [1, 1, 0, 0] c49v)
def r49x2 : RG X30 := fun call yl x s κ => X30.rec (motive := fun _ => MO X30) (fun m a b c d f g h i l n o p r t u w y z A B C D E F G H I J K L s κ => κ (X30.mk m a b c d f g (.i .i64 0) i l n o p r t u w y z A B C D E F G H I J K L) s) x s κ
theorem r49x2ok : RgOk P false o49x2 T30 r49x2 := fun _ _ x _ _ => by cases x; kernel_rfl
def o49x3 : Array Oper := regO (pth [1, 1, 0, 1, 0, 0, 0, 0] c49v)
def r49x3 : RG X30 := fun call yl x s κ => X30.rec (motive := fun _ => MO X30) (fun m a b c d f g h i l n o p r t u w y z A B C D E F G H I J K L s κ => binC h (.i .i64 32) 3 .lss P s (fun v0 s => κ (X30.mk m a b c d f g h i l h v0 p r t u w y z A B C D E F G H I J K L) s)) x s κ
theorem r49x3ok : RgOk P false o49x3 T30 r49x3 := fun _ _ x _ _ => by cases x; kernel_rfl
def o49x4 : Array Oper := regO (pth [1, 1, 0, 1, 0, 0, 1, 0, 0] c49v)
def r49x4 : RG X30 := fun call yl x s κ => X30.rec (motive := fun _ => MO X30) (fun m a b c d f g h i l n o p r t u w y z A B C D E F G H I J K L s κ => natK h fun j => iaP c 32 j 1 s (fun v0 s => ldV v0 false 1 s (fun v1 s => binC v1 b 5 .xor P s (fun v2 s => buildSliceC P 32 1 [(0, v2)] s (fun v3 s => appendC P 32 32 g v3 s (fun v4 s => κ (X30.mk m a b c d f v4 h i l n o p r g h v0 v1 b v2 v3 v4 D E F G H I J K L) s)))))) x s κ
theorem r49x4ok : RgOk P false o49x4 T30 r49x4 := fun _ _ x _ _ => by cases x; kernel_rfl
def o49x5 : Array Oper := regO (pth [1, 1, 0, 1, 0, 0, 1, 1] c49v)
def r49x5 : RG X30 := fun call yl x s κ => X30.rec (motive := fun _ => MO X30) (fun m a b c d f g h i l n o p r t u w y z A B C D E F G H I J K L s κ => binC h (.i .i64 1) 3 .add P s (fun v0 s => κ (X30.mk m a b c d f g v0 i l n o h v0 t u w y z A B C D E F G H I J K L) s)) x s κ
theorem r49x5ok : RgOk P false o49x5 T30 r49x5 := fun _ _ x _ _ => by cases x; kernel_rfl
def o49x6 : Array Oper := regO (pth [1, 1, 1, 0, 0] c49v)
def r49x6 : RG X30 := fun call yl x s κ => X30.rec (motive := fun _ => MO X30) (fun m a b c d f g h i l n o p r t u w y z A B C D E F G H I J K L s κ => κ (X30.mk m a b c d f g h (.i .i64 0) l n o p r t u w y z A B C D E F G H I J K L) s) x s κ
theorem r49x6ok : RgOk P false o49x6 T30 r49x6 := fun _ _ x _ _ => by cases x; kernel_rfl
def o49x7 : Array Oper := regO (pth [1, 1, 1, 0, 1, 0, 0, 0, 0] c49v)
def r49x7 : RG X30 := fun call yl x s κ => X30.rec (motive := fun _ => MO X30) (fun m a b c d f g h i l n o p r t u w y z A B C D E F G H I J K L s κ => binC i (.i .i64 32) 3 .lss P s (fun v0 s => κ (X30.mk m a b c d f g h i l n o p r t u w y z A B C i v0 F G H I J K L) s)) x s κ
theorem r49x7ok : RgOk P false o49x7 T30 r49x7 := fun _ _ x _ _ => by cases x; kernel_rfl
def o49x8 : Array Oper := regO (pth [1, 1, 1, 0, 1, 0, 0, 1, 0, 0] c49v)
def r49x8 : RG X30 := fun call yl x s κ => X30.rec (motive := fun _ => MO X30) (fun m a b c d f g h i l n o p r t u w y z A B C D E F G H I J K L s κ => buildSliceC P 32 1 [(0, b)] s (fun v0 s => appendC P 32 32 g v0 s (fun v1 s => κ (X30.mk m a b c d f v1 h i l n o p r t u w y z A B C D E F G g b v0 v1 L) s))) x s κ
theorem r49x8ok : RgOk P false o49x8 T30 r49x8 := fun _ _ x _ _ => by cases x; kernel_rfl
def o49x9 : Array Oper := regO (pth [1, 1, 1, 0, 1, 0, 0, 1, 1] c49v)
def r49x9 : RG X30 := fun call yl x s κ => X30.rec (motive := fun _ => MO X30) (fun m a b c d f g h i l n o p r t u w y z A B C D E F G H I J K L s κ => binC i (.i .i64 1) 3 .add P s (fun v0 s => κ (X30.mk m a b c d f g h v0 l n o p r t u w y z A B C D E i v0 H I J K L) s)) x s κ
theorem r49x9ok : RgOk P false o49x9 T30 r49x9 := fun _ _ x _ _ => by cases x; kernel_rfl
def o49x10 : Array Oper := regO (pth [1, 1, 1, 1, 0] c49v)
def r49x10 : RG X30 := fun call yl x s κ => X30.rec (motive := fun _ => MO X30) (fun m a b c d f g h i l n o p r t u w y z A B C D E F G H I J K L s κ => κ (X30.mk m a b c d g g h i l n o p r t u w y z A B C D E F G H I J K g) s) x s κ
theorem r49x10ok : RgOk P false o49x10 T30 r49x10 := fun _ _ x _ _ => by cases x; kernel_rfl
def S49 : SF X30 := (seqS (regS P t0.fq r49x0) (seqS (regS P t0.fq r49x1) (seqS (seqS (regS P t0.fq r49x2) (blkS 0 (loopS (seqS (seqS (regS P t0.fq r49x3) (condS (fun x => X30.rec (motive := fun _ => FV) (fun _ _ _ _ _ _ _ _ _ _ _ z _ _ _ _ _ _ _ _ _ _ _ _ _ _ _ _ _ _ _ => z) x) skipS (exitS 0))) (seqS (blkS 1 (regS P t0.fq r49x4)) (regS P t0.fq r49x5)))))) (seqS (seqS (regS P t0.fq r49x6) (blkS 2 (loopS (seqS (seqS (regS P t0.fq r49x7) (condS (fun x => X30.rec (motive := fun _ => FV) (fun _ _ _ _ _ _ _ _ _ _ _ _ _ _ _ _ _ _ _ _ _ _ _ z _ _ _ _ _ _ _ => z) x) skipS (exitS 2))) (seqS (blkS 3 (regS P t0.fq r49x8)) (regS P t0.fq r49x9)))))) (seqS (regS P t0.fq r49x10) retS)))))
theorem S49ok : Sh P t0.fq T30 c49v S49 := by
  have e : c49v = (.seq (.region 0 o49x0 false) (.seq (.region 1 o49x1 false) (.seq (.seq (.region 2 o49x2 false) (.block 0 (.loop (.seq (.seq (.region 3 o49x3 false) (.cond (.tmp 10) .skip (.exit 0))) (.seq (.block 1 (.region 5 o49x4 false)) (.region 4 o49x5 false)))))) (.seq (.seq (.region 6 o49x6 false) (.block 2 (.loop (.seq (.seq (.region 7 o49x7 false) (.cond (.tmp 22) .skip (.exit 2))) (.seq (.block 3 (.region 9 o49x8 false)) (.region 8 o49x9 false)))))) (.seq (.region 10 o49x10 false) .ret))))) := by kernel_rfl
  rw [e]
  exact (sh_seq (sh_reg r49x0ok) (sh_seq (sh_reg r49x1ok) (sh_seq (sh_seq (sh_reg r49x2ok) (sh_blk 0 (sh_loop (sh_seq (sh_seq (sh_reg r49x3ok) (sh_cond (fun x => by cases x; rfl) sh_skip (sh_exit 0))) (sh_seq (sh_blk 1 (sh_reg r49x4ok)) (sh_reg r49x5ok)))))) (sh_seq (sh_seq (sh_reg r49x6ok) (sh_blk 2 (sh_loop (sh_seq (sh_seq (sh_reg r49x7ok) (sh_cond (fun x => by cases x; rfl) sh_skip (sh_exit 2))) (sh_seq (sh_blk 3 (sh_reg r49x8ok)) (sh_reg r49x9ok)))))) (sh_seq (sh_reg r49x10ok) sh_ret)))))
def A49 : List FV → Option X30 := fun l => match l with
  | [a, b] => some (X30.mk [] a b .e .e .e .e .e .e .e .e .e .e .e .e .e .e .e .e .e .e .e .e .e .e .e .e .e .e .e .e)
  | _ => none
def L49 : LQ := shal P T30 S49 [.tmp 4] 4000 A49
def E49 : LA := evCall P t0.fa 4000 49
theorem G49 : Good P 49 L49 E49 := good_shal all0 (by kernel_rfl) (show FT P 49 = some (c49v, 30, [.tmp 4]) by kernel_rfl) S49ok (fun l x h => by
    unfold A49 at h
    split at h
    · cases h; exact ⟨by kernel_rfl, by kernel_rfl⟩
    · cases h) 4000
def c50v : Code := bodyOf P 50
def o50x0 : Array Oper := regO (pth [0] c50v)
def r50x0 : RG X17 := fun call yl x s κ => X17.rec (motive := fun _ => MO X17) (fun m a b c d f g h i l n o p r t u w y s κ => bxV a 34 s (fun v0 s => κ (X17.mk m a v0 (.o (.sl none 0 0)) d f g h i l n o p r t u w y) s)) x s κ
theorem r50x0ok : RgOk P false o50x0 T17 r50x0 := fun _ _ x _ _ => by cases x; kernel_rfl
def o50x1 : Array Oper := regO (pth [1, 0] c50v)
def r50x1 : RG X17 := fun call yl x s κ => X17.rec (motive := fun _ => MO X17) (fun m a b c d f g h i l n o p r t u w y s κ => buildSliceC P 32 0 [] s (fun v0 s => κ (X17.mk m a b c v0 f v0 h i l n o p r t u w y) s)) x s κ
theorem r50x1ok : RgOk P false o50x1 T17 r50x1 := fun _ _ x _ _ => by cases x; kernel_rfl
def o50x2 : Array Oper := regO (pth [1, 1, 0, 0] c50v)
def r50x2 : RG X17 := fun call yl x s κ => X17.rec (motive := fun _ => MO X17) (fun m a b c d f g h i l n o p r t u w y s κ => κ (X17.mk m a b c d (.i .i64 0) g h i l n o p r t u w y) s) x s κ
theorem r50x2ok : RgOk P false o50x2 T17 r50x2 := fun _ _ x _ _ => by cases x; kernel_rfl
def o50x3 : Array Oper := regO (pth [1, 1, 0, 1, 0, 0, 0, 0] c50v)
def r50x3 : RG X17 := fun call yl x s κ => X17.rec (motive := fun _ => MO X17) (fun m a b c d f g h i l n o p r t u w y s κ => binC f (.i .i64 32) 3 .lss P s (fun v0 s => κ (X17.mk m a b c d f g f v0 l n o p r t u w y) s)) x s κ
theorem r50x3ok : RgOk P false o50x3 T17 r50x3 := fun _ _ x _ _ => by cases x; kernel_rfl
def o50x4 : Array Oper := regO (pth [1, 1, 0, 1, 0, 0, 1, 0, 0] c50v)
def r50x4 : RG X17 := fun call yl x s κ => X17.rec (motive := fun _ => MO X17) (fun m a b c d f g h i l n o p r t u w y s κ => natK f fun j => iaP b 32 j 1 s (fun v0 s => ldV v0 false 1 s (fun v1 s => buildSliceC P 32 1 [(0, v1)] s (fun v2 s => appendC P 32 32 d v2 s (fun v3 s => κ (X17.mk m a b c v3 f g h i l n d f v0 v1 v2 v3 y) s))))) x s κ
theorem r50x4ok : RgOk P false o50x4 T17 r50x4 := fun _ _ x _ _ => by cases x; kernel_rfl
def o50x5 : Array Oper := regO (pth [1, 1, 0, 1, 0, 0, 1, 1] c50v)
def r50x5 : RG X17 := fun call yl x s κ => X17.rec (motive := fun _ => MO X17) (fun m a b c d f g h i l n o p r t u w y s κ => binC f (.i .i64 1) 3 .add P s (fun v0 s => κ (X17.mk m a b c d v0 g h i f v0 o p r t u w y) s)) x s κ
theorem r50x5ok : RgOk P false o50x5 T17 r50x5 := fun _ _ x _ _ => by cases x; kernel_rfl
def o50x6 : Array Oper := regO (pth [1, 1, 1, 0] c50v)
def r50x6 : RG X17 := fun call yl x s κ => X17.rec (motive := fun _ => MO X17) (fun m a b c d f g h i l n o p r t u w y s κ => κ (X17.mk m a b d d f g h i l n o p r t u w d) s) x s κ
theorem r50x6ok : RgOk P false o50x6 T17 r50x6 := fun _ _ x _ _ => by cases x; kernel_rfl
def S50 : SF X17 := (seqS (regS P t0.fq r50x0) (seqS (regS P t0.fq r50x1) (seqS (seqS (regS P t0.fq r50x2) (blkS 0 (loopS (seqS (seqS (regS P t0.fq r50x3) (condS (fun x => X17.rec (motive := fun _ => FV) (fun _ _ _ _ _ _ _ _ z _ _ _ _ _ _ _ _ _ => z) x) skipS (exitS 0))) (seqS (blkS 1 (regS P t0.fq r50x4)) (regS P t0.fq r50x5)))))) (seqS (regS P t0.fq r50x6) retS))))
theorem S50ok : Sh P t0.fq T17 c50v S50 := by
  have e : c50v = (.seq (.region 0 o50x0 false) (.seq (.region 1 o50x1 false) (.seq (.seq (.region 2 o50x2 false) (.block 0 (.loop (.seq (.seq (.region 3 o50x3 false) (.cond (.tmp 7) .skip (.exit 0))) (.seq (.block 1 (.region 5 o50x4 false)) (.region 4 o50x5 false)))))) (.seq (.region 6 o50x6 false) .ret)))) := by kernel_rfl
  rw [e]
  exact (sh_seq (sh_reg r50x0ok) (sh_seq (sh_reg r50x1ok) (sh_seq (sh_seq (sh_reg r50x2ok) (sh_blk 0 (sh_loop (sh_seq (sh_seq (sh_reg r50x3ok) (sh_cond (fun x => by cases x; rfl) sh_skip (sh_exit 0))) (sh_seq (sh_blk 1 (sh_reg r50x4ok)) (sh_reg r50x5ok)))))) (sh_seq (sh_reg r50x6ok) sh_ret))))
def A50 : List FV → Option X17 := fun l => match l with
  | [a] => some (X17.mk [] a .e .e .e .e .e .e .e .e .e .e .e .e .e .e .e .e)
  | _ => none
def L50 : LQ := shal P T17 S50 [.tmp 2] 4000 A50
def E50 : LA := evCall P t0.fa 4000 50
theorem G50 : Good P 50 L50 E50 := good_shal all0 (by kernel_rfl) (show FT P 50 = some (c50v, 17, [.tmp 2]) by kernel_rfl) S50ok (fun l x h => by
    unfold A50 at h
    split at h
    · cases h; exact ⟨by kernel_rfl, by kernel_rfl⟩
    · cases h) 4000
def t1 : LT := (.n 88 L88 E88 (.n 57 L57 E57 (.n 50 L50 E50 (.n 49 L49 E49 (.n 48 L48 E48 .e .e) .e) (.n 52 L52 E52 .e .e)) (.n 59 L59 E59 (.n 58 L58 E58 .e .e) (.n 72 L72 E72 .e .e))) (.n 104 L104 E104 (.n 96 L96 E96 (.n 95 L95 E95 .e .e) (.n 101 L101 E101 .e .e)) (.n 116 L116 E116 (.n 115 L115 E115 .e .e) (.n 142 L142 E142 .e .e))))
theorem all1 : t1.all (Good P) := ⟨G88, ⟨G57, ⟨G50, ⟨G49, ⟨G48, trivial, trivial⟩, trivial⟩, ⟨G52, trivial, trivial⟩⟩, ⟨G59, ⟨G58, trivial, trivial⟩, ⟨G72, trivial, trivial⟩⟩⟩, ⟨G104, ⟨G96, ⟨G95, trivial, trivial⟩, ⟨G101, trivial, trivial⟩⟩, ⟨G116, ⟨G115, trivial, trivial⟩, ⟨G142, trivial, trivial⟩⟩⟩⟩
end
end V
end Go.CE
namespace Go.CE
namespace V
set_option maxRecDepth 100000
noncomputable section
variable [Sym] [SymOk]
inductive X4 where
  | mk (m : List Nat) (a b c d : FV)
def T4 (x : X4) : FF := X4.rec (motive := fun _ => FF) (fun m a b c d => ⟨(.n a (.n b .e .e .e .e) (.n c .e .e .e .e) (.n d .e .e .e .e) .e), 4, m⟩) x
def c117v : Code := bodyOf P 117
def o117x0 : Array Oper := regO (pth [0] c117v)
def r117x0 : RG X4 := fun call yl x s κ => X4.rec (motive := fun _ => MO X4) (fun m a b c d s κ => bxV a 32 s (fun v0 s => κ (X4.mk m a v0 (.o .nf) d) s)) x s κ
theorem r117x0ok : RgOk P false o117x0 T4 r117x0 := fun _ _ x _ _ => by cases x; kernel_rfl
def o117x1 : Array Oper := regO (pth [1, 0] c117v)
def r117x1 : RG X4 := fun call yl x s κ => X4.rec (motive := fun _ => MO X4) (fun m a b c d s κ => makeFuncC 142 [] [b] s (fun v0 s => κ (X4.mk m a b v0 v0) s)) x s κ
theorem r117x1ok : RgOk P false o117x1 T4 r117x1 := fun _ _ x _ _ => by cases x; kernel_rfl
def S117 : SF X4 := (seqS (regS P t1.fq r117x0) (seqS (regS P t1.fq r117x1) retS))
theorem S117ok : Sh P t1.fq T4 c117v S117 := by
  have e : c117v = (.seq (.region 0 o117x0 false) (.seq (.region 1 o117x1 false) .ret)) := by kernel_rfl
  rw [e]
  exact (sh_seq (sh_reg r117x0ok) (sh_seq (sh_reg r117x1ok) sh_ret))
def A117 : List FV → Option X4 := fun l => match l with
  | [a] => some (X4.mk [] a .e .e .e)
  | _ => none
def L117 : LQ := shal P T4 S117 [.tmp 2] 4000 A117
def E117 : LA := evCall P t1.fa 4000 117
theorem G117 : Good P 117 L117 E117 := good_shal all1 (by kernel_rfl) (show FT P 117 = some (c117v, 4, [.tmp 2]) by kernel_rfl) S117ok (fun l x h => by
    unfold A117 at h
    split at h
    · cases h; exact ⟨by kernel_rfl, by kernel_rfl⟩
    · cases h) 4000
inductive X16 where
  | mk (m : List Nat) (a b c d f g h i l n o p r t u w : FV)
def T16 (x : X16) : FF := X16.rec (motive := fun _ => FF) (fun m a b c d f g h i l n o p r t u w => ⟨(.n a (.n b (.n g .e .e .e .e) (.n n .e .e .e .e) (.n t .e .e .e .e) .e) (.n c (.n h .e .e .e .e) (.n o .e .e .e .e) (.n u .e .e .e .e) .e) (.n d (.n i .e .e .e .e) (.n p .e .e .e .e) (.n w .e .e .e .e) .e) (.n f (.n l .e .e .e .e) (.n r .e .e .e .e) .e .e)), 16, m⟩) x
def c82v : Code := bodyOf P 82
def o82x0 : Array Oper := regO (pth [0] c82v)
def r82x0 : RG X16 := fun call yl x s κ => X16.rec (motive := fun _ => MO X16) (fun m a b c d f g h i l n o p r t u w s κ => bxV b 32 s (fun v0 s => κ (X16.mk m a b c v0 (.o (.p none)) (.o .nf) h i l n o p r t u w) s)) x s κ
theorem r82x0ok : RgOk P false o82x0 T16 r82x0 := fun _ _ x _ _ => by cases x; kernel_rfl
def o82x1 : Array Oper := regO (pth [1, 0] c82v)
def r82x1 : RG X16 := fun call yl x s κ => X16.rec (motive := fun _ => MO X16) (fun m a b c d f g h i l n o p r t u w s κ => buildC P 179 [(0, a)] s (fun v0 s => bxV v0 179 s (fun v1 s => allocC P 147 s (fun v2 s => stA v2 v1 1 s (fun _ s => κ (X16.mk m a b c d f g v2 a v0 v1 o p r t u w) s))))) x s κ
theorem r82x1ok : RgOk P false o82x1 T16 r82x1 := fun _ _ x _ _ => by cases x; kernel_rfl
def o82x2 : Array Oper := regO (pth [1, 1, 0] c82v)
def r82x2 : RG X16 := fun call yl x s κ => X16.rec (motive := fun _ => MO X16) (fun m a b c d f g h i l n o p r t u w s κ => ldV h false 1 s (fun v0 s => makeFuncC 115 [] [h, d] s (fun v1 s => nilC v0 s (fun v2 s => ptrK v2 1 s (fun v3 s => stA v3 v1 1 s (fun _ s => κ (X16.mk m a b c d f g h i l n v0 v1 v2 v3 u w) s)))))) x s κ
theorem r82x2ok : RgOk P false o82x2 T16 r82x2 := fun _ _ x _ _ => by cases x; kernel_rfl
def o82x3 : Array Oper := regO (pth [1, 1, 1, 0] c82v)
def r82x3 : RG X16 := fun call yl x s κ => X16.rec (motive := fun _ => MO X16) (fun m a b c d f g h i l n o p r t u w s κ => ldV h false 1 s (fun v0 s => makeFuncC 116 [] [h, d] s (fun v1 s => κ (X16.mk m a b c d v0 v1 h i l n o p r t v0 v1) s))) x s κ
theorem r82x3ok : RgOk P false o82x3 T16 r82x3 := fun _ _ x _ _ => by cases x; kernel_rfl
def S82 : SF X16 := (seqS (regS P t1.fq r82x0) (seqS (regS P t1.fq r82x1) (seqS (regS P t1.fq r82x2) (seqS (regS P t1.fq r82x3) retS))))
theorem S82ok : Sh P t1.fq T16 c82v S82 := by
  have e : c82v = (.seq (.region 0 o82x0 false) (.seq (.region 1 o82x1 false) (.seq (.region 2 o82x2 false) (.seq (.region 3 o82x3 false) .ret)))) := by kernel_rfl
  rw [e]
  exact (sh_seq (sh_reg r82x0ok) (sh_seq (sh_reg r82x1ok) (sh_seq (sh_reg r82x2ok) (sh_seq (sh_reg r82x3ok) sh_ret))))
def A82 : List FV → Option X16 := fun l => match l with
  | [a, b] => some (X16.mk [] a b .e .e .e .e .e .e .e .e .e .e .e .e .e .e)
  | _ => none
def L82 : LQ := shal P T16 S82 [.tmp 4, .tmp 5] 4000 A82
def E82 : LA := evCall P t1.fa 4000 82
theorem G82 : Good P 82 L82 E82 := good_shal all1 (by kernel_rfl) (show FT P 82 = some (c82v, 16, [.tmp 4, .tmp 5]) by kernel_rfl) S82ok (fun l x h => by
    unfold A82 at h
    split at h
    · cases h; exact ⟨by kernel_rfl, by kernel_rfl⟩
    · cases h) 4000
inductive X29 where
  | mk (m : List Nat) (a b c d f g h i l n o p r t u w y z A B C D E F G H I J K : FV)
def T29 (x : X29) : FF := X29.rec (motive := fun _ => FF) (fun m a b c d f g h i l n o p r t u w y z A B C D E F G H I J K => ⟨(.n a (.n b (.n g (.n D .e .e .e .e) .e .e .e) (.n n (.n H .e .e .e .e) .e .e .e) (.n t .e .e .e .e) (.n z .e .e .e .e)) (.n c (.n h (.n E .e .e .e .e) .e .e .e) (.n o (.n I .e .e .e .e) .e .e .e) (.n u .e .e .e .e) (.n A .e .e .e .e)) (.n d (.n i (.n F .e .e .e .e) .e .e .e) (.n p (.n J .e .e .e .e) .e .e .e) (.n w .e .e .e .e) (.n B .e .e .e .e)) (.n f (.n l (.n G .e .e .e .e) .e .e .e) (.n r (.n K .e .e .e .e) .e .e .e) (.n y .e .e .e .e) (.n C .e .e .e .e))), 29, m⟩) x
def c70v : Code := bodyOf P 70
def o70x0 : Array Oper := regO (pth [0] c70v)
def r70x0 : RG X29 := fun call yl x s κ => X29.rec (motive := fun _ => MO X29) (fun m a b c d f g h i l n o p r t u w y z A B C D E F G H I J K s κ => κ (X29.mk m a b c d (.i .i64 0) g h i l n o p r t u w y z A B C D E F G H I J K) s) x s κ
theorem r70x0ok : RgOk P false o70x0 T29 r70x0 := fun _ _ x _ _ => by cases x; kernel_rfl
def o70x1 : Array Oper := regO (pth [1, 0] c70v)
def r70x1 : RG X29 := fun call yl x s κ => X29.rec (motive := fun _ => MO X29) (fun m a b c d f g h i l n o p r t u w y z A B C D E F G H I J K s κ => call 101 [a, b] s (fun v0 s => κ (X29.mk m a b c d f v0 h i a b v0 p r t u w y z A B C D E F G H I J K) s)) x s κ
theorem r70x1ok : RgOk P false o70x1 T29 r70x1 := fun _ _ x _ _ => by cases x; kernel_rfl
def o70x2 : Array Oper := regO (pth [1, 1, 0] c70v)
def r70x2 : RG X29 := fun call yl x s κ => X29.rec (motive := fun _ => MO X29) (fun m a b c d f g h i l n o p r t u w y z A B C D E F G H I J K s κ => κ (X29.mk m a b c d f g (.i .u64 0) i l n o p r t u w y z A B C D E F G H I J K) s) x s κ
theorem r70x2ok : RgOk P false o70x2 T29 r70x2 := fun _ _ x _ _ => by cases x; kernel_rfl
def o70x3 : Array Oper := regO (pth [1, 1, 1, 0, 0] c70v)
def r70x3 : RG X29 := fun call yl x s κ => X29.rec (motive := fun _ => MO X29) (fun m a b c d f g h i l n o p r t u w y z A B C D E F G H I J K s κ => κ (X29.mk m a b c d f g h (.i .i64 0) l n o p r t u w y z A B C D E F G H I J K) s) x s κ
theorem r70x3ok : RgOk P false o70x3 T29 r70x3 := fun _ _ x _ _ => by cases x; kernel_rfl
def o70x4 : Array Oper := regO (pth [1, 1, 1, 0, 1, 0, 0, 0, 0] c70v)
def r70x4 : RG X29 := fun call yl x s κ => X29.rec (motive := fun _ => MO X29) (fun m a b c d f g h i l n o p r t u w y z A B C D E F G H I J K s κ => lenC g P 32 s (fun v0 s => binC i v0 3 .lss P s (fun v1 s => κ (X29.mk m a b c d f g h i l n o i g v0 v1 w y z A B C D E F G H I J K) s))) x s κ
theorem r70x4ok : RgOk P false o70x4 T29 r70x4 := fun _ _ x _ _ => by cases x; kernel_rfl
def o70x5 : Array Oper := regO (pth [1, 1, 1, 0, 1, 0, 0, 1, 0, 0] c70v)
def r70x5 : RG X29 := fun call yl x s κ => X29.rec (motive := fun _ => MO X29) (fun m a b c d f g h i l n o p r t u w y z A B C D E F G H I J K s κ => natK i fun j => iaS g j 1 s (fun v0 s => ldV v0 false 1 s (fun v1 s => cvV v1 .u64 s (fun v2 s => binC (.i .i64 8) i 3 .mul P s (fun v3 s => binC v2 v3 122 .shl P s (fun v4 s => binC h v4 122 .add P s (fun v5 s => κ (X29.mk m a b c d f g v5 i l n o p r t u w y h g i v0 v1 v2 i v3 v4 v5 J K) s))))))) x s κ
theorem r70x5ok : RgOk P false o70x5 T29 r70x5 := fun _ _ x _ _ => by cases x; kernel_rfl
def o70x6 : Array Oper := regO (pth [1, 1, 1, 0, 1, 0, 0, 1, 1] c70v)
def r70x6 : RG X29 := fun call yl x s κ => X29.rec (motive := fun _ => MO X29) (fun m a b c d f g h i l n o p r t u w y z A B C D E F G H I J K s κ => binC i (.i .i64 1) 3 .add P s (fun v0 s => κ (X29.mk m a b c d f g h v0 l n o p r t u i v0 z A B C D E F G H I J K) s)) x s κ
theorem r70x6ok : RgOk P false o70x6 T29 r70x6 := fun _ _ x _ _ => by cases x; kernel_rfl
def o70x7 : Array Oper := regO (pth [1, 1, 1, 1, 0] c70v)
def r70x7 : RG X29 := fun call yl x s κ => X29.rec (motive := fun _ => MO X29) (fun m a b c d f g h i l n o p r t u w y z A B C D E F G H I J K s κ => cvV h .i64 s (fun v0 s => κ (X29.mk m a b c d v0 g h i l n o p r t u w y z A B C D E F G H I h v0) s)) x s κ
theorem r70x7ok : RgOk P false o70x7 T29 r70x7 := fun _ _ x _ _ => by cases x; kernel_rfl
def S70 : SF X29 := (seqS (regS P t1.fq r70x0) (seqS (regS P t1.fq r70x1) (seqS (regS P t1.fq r70x2) (seqS (seqS (regS P t1.fq r70x3) (blkS 0 (loopS (seqS (seqS (regS P t1.fq r70x4) (condS (fun x => X29.rec (motive := fun _ => FV) (fun _ _ _ _ _ _ _ _ _ _ _ _ _ _ _ z _ _ _ _ _ _ _ _ _ _ _ _ _ _ => z) x) skipS (exitS 0))) (seqS (blkS 1 (regS P t1.fq r70x5)) (regS P t1.fq r70x6)))))) (seqS (regS P t1.fq r70x7) retS)))))
theorem S70ok : Sh P t1.fq T29 c70v S70 := by
  have e : c70v = (.seq (.region 0 o70x0 false) (.seq (.region 1 o70x1 false) (.seq (.region 2 o70x2 false) (.seq (.seq (.region 3 o70x3 false) (.block 0 (.loop (.seq (.seq (.region 4 o70x4 false) (.cond (.tmp 14) .skip (.exit 0))) (.seq (.block 1 (.region 6 o70x5 false)) (.region 5 o70x6 false)))))) (.seq (.region 7 o70x7 false) .ret))))) := by kernel_rfl
  rw [e]
  exact (sh_seq (sh_reg r70x0ok) (sh_seq (sh_reg r70x1ok) (sh_seq (sh_reg r70x2ok) (sh_seq (sh_seq (sh_reg r70x3ok) (sh_blk 0 (sh_loop (sh_seq (sh_seq (sh_reg r70x4ok) (sh_cond (fun x => by cases x; rfl) sh_skip (sh_exit 0))) (sh_seq (sh_blk 1 (sh_reg r70x5ok)) (sh_reg r70x6ok)))))) (sh_seq (sh_reg r70x7ok) sh_ret)))))
def A70 : List FV → Option X29 := fun l => match l with
  | [a, b] => some (X29.mk [] a b .e .e .e .e .e .e .e .e .e .e .e .e .e .e .e .e .e .e .e .e .e .e .e .e .e .e .e)
  | _ => none
def L70 : LQ := shal P T29 S70 [.tmp 4] 4000 A70
def E70 : LA := evCall P t1.fa 4000 70
theorem G70 : Good P 70 L70 E70 := good_shal all1 (by kernel_rfl) (show FT P 70 = some (c70v, 29, [.tmp 4]) by kernel_rfl) S70ok (fun l x h => by
    unfold A70 at h
    split at h
    · cases h; exact ⟨by kernel_rfl, by kernel_rfl⟩
    · cases h) 4000
def c68v : Code := bodyOf P 68
def o68x0 : Array Oper := regO (pth [0] c68v)
def r68x0 : RG X21 := fun call yl x s κ => X21.rec (motive := fun _ => MO X21) (fun m a b c d f g h i l n o p r t u w y z A B C s κ => κ (X21.mk m a b c d (.b false) g h i l n o p r t u w y z A B C) s) x s κ
theorem r68x0ok : RgOk P false o68x0 T21 r68x0 := fun _ _ x _ _ => by cases x; kernel_rfl
def o68x1 : Array Oper := regO (pth [1, 0] c68v)
def r68x1 : RG X21 := fun call yl x s κ => X21.rec (motive := fun _ => MO X21) (fun m a b c d f g h i l n o p r t u w y z A B C s κ => call 95 [a] s (fun v0 s => κ (X21.mk m a b c d f v0 h a v0 n o p r t u w y z A B C) s)) x s κ
theorem r68x1ok : RgOk P false o68x1 T21 r68x1 := fun _ _ x _ _ => by cases x; kernel_rfl
def o68x2 : Array Oper := regO (pth [1, 1, 0, 0] c68v)
def r68x2 : RG X21 := fun call yl x s κ => X21.rec (motive := fun _ => MO X21) (fun m a b c d f g h i l n o p r t u w y z A B C s κ => κ (X21.mk m a b c d f g (.i .i64 0) i l n o p r t u w y z A B C) s) x s κ
theorem r68x2ok : RgOk P false o68x2 T21 r68x2 := fun _ _ x _ _ => by cases x; kernel_rfl
def o68x3 : Array Oper := regO (pth [1, 1, 0, 1, 0, 0, 0, 0] c68v)
def r68x3 : RG X21 := fun call yl x s κ => X21.rec (motive := fun _ => MO X21) (fun m a b c d f g h i l n o p r t u w y z A B C s κ => lenC g P 50 s (fun v0 s => binC h v0 3 .lss P s (fun v1 s => κ (X21.mk m a b c d f g h i l h g v0 v1 t u w y z A B C) s))) x s κ
theorem r68x3ok : RgOk P false o68x3 T21 r68x3 := fun _ _ x _ _ => by cases x; kernel_rfl
def o68x4 : Array Oper := regO (pth [1, 1, 0, 1, 0, 0, 1, 0, 0, 0] c68v)
def r68x4 : RG X21 := fun call yl x s κ => X21.rec (motive := fun _ => MO X21) (fun m a b c d f g h i l n o p r t u w y z A B C s κ => natK h fun j => iaS g j 1 s (fun v0 s => ldV v0 false 1 s (fun v1 s => binC v1 b 3 .eql P s (fun v2 s => κ (X21.mk m a b c d f g h i l n o p r t u g h v0 v1 b v2) s)))) x s κ
theorem r68x4ok : RgOk P false o68x4 T21 r68x4 := fun _ _ x _ _ => by cases x; kernel_rfl
def o68x5 : Array Oper := regO (pth [1, 1, 0, 1, 0, 0, 1, 0, 0, 1, 0, 0] c68v)
def r68x5 : RG X21 := fun call yl x s κ => X21.rec (motive := fun _ => MO X21) (fun m a b c d f g h i l n o p r t u w y z A B C s κ => κ (X21.mk m a b c d (.b true) g h i l n o p r t u w y z A B C) s) x s κ
theorem r68x5ok : RgOk P false o68x5 T21 r68x5 := fun _ _ x _ _ => by cases x; kernel_rfl
def o68x6 : Array Oper := regO (pth [1, 1, 0, 1, 0, 0, 1, 1] c68v)
def r68x6 : RG X21 := fun call yl x s κ => X21.rec (motive := fun _ => MO X21) (fun m a b c d f g h i l n o p r t u w y z A B C s κ => binC h (.i .i64 1) 3 .add P s (fun v0 s => κ (X21.mk m a b c d f g v0 i l n o p r h v0 w y z A B C) s)) x s κ
theorem r68x6ok : RgOk P false o68x6 T21 r68x6 := fun _ _ x _ _ => by cases x; kernel_rfl
def o68x7 : Array Oper := regO (pth [1, 1, 1, 0] c68v)
def r68x7 : RG X21 := fun call yl x s κ => X21.rec (motive := fun _ => MO X21) (fun m a b c d f g h i l n o p r t u w y z A B C s κ => κ (X21.mk m a b c d (.b false) g h i l n o p r t u w y z A B C) s) x s κ
theorem r68x7ok : RgOk P false o68x7 T21 r68x7 := fun _ _ x _ _ => by cases x; kernel_rfl
def S68 : SF X21 := (seqS (regS P t1.fq r68x0) (seqS (regS P t1.fq r68x1) (seqS (seqS (regS P t1.fq r68x2) (blkS 0 (loopS (seqS (seqS (regS P t1.fq r68x3) (condS (fun x => X21.rec (motive := fun _ => FV) (fun _ _ _ _ _ _ _ _ _ _ _ _ _ z _ _ _ _ _ _ _ _ => z) x) skipS (exitS 0))) (seqS (blkS 1 (seqS (regS P t1.fq r68x4) (condS (fun x => X21.rec (motive := fun _ => FV) (fun _ _ _ _ _ _ _ _ _ _ _ _ _ _ _ _ _ _ _ _ _ z => z) x) (seqS (regS P t1.fq r68x5) retS) skipS))) (regS P t1.fq r68x6)))))) (seqS (regS P t1.fq r68x7) retS))))
theorem S68ok : Sh P t1.fq T21 c68v S68 := by
  have e : c68v = (.seq (.region 0 o68x0 false) (.seq (.region 1 o68x1 false) (.seq (.seq (.region 2 o68x2 false) (.block 0 (.loop (.seq (.seq (.region 3 o68x3 false) (.cond (.tmp 12) .skip (.exit 0))) (.seq (.block 1 (.seq (.region 5 o68x4 false) (.cond (.tmp 20) (.seq (.region 6 o68x5 false) .ret) .skip))) (.region 4 o68x6 false)))))) (.seq (.region 7 o68x7 false) .ret)))) := by kernel_rfl
  rw [e]
  exact (sh_seq (sh_reg r68x0ok) (sh_seq (sh_reg r68x1ok) (sh_seq (sh_seq (sh_reg r68x2ok) (sh_blk 0 (sh_loop (sh_seq (sh_seq (sh_reg r68x3ok) (sh_cond (fun x => by cases x; rfl) sh_skip (sh_exit 0))) (sh_seq (sh_blk 1 (sh_seq (sh_reg r68x4ok) (sh_cond (fun x => by cases x; rfl) (sh_seq (sh_reg r68x5ok) sh_ret) sh_skip))) (sh_reg r68x6ok)))))) (sh_seq (sh_reg r68x7ok) sh_ret))))
def A68 : List FV → Option X21 := fun l => match l with
  | [a, b] => some (X21.mk [] a b .e .e .e .e .e .e .e .e .e .e .e .e .e .e .e .e .e .e .e)
  | _ => none
def L68 : LQ := shal P T21 S68 [.tmp 4] 4000 A68
def E68 : LA := evCall P t1.fa 4000 68
theorem G68 : Good P 68 L68 E68 := good_shal all1 (by kernel_rfl) (show FT P 68 = some (c68v, 21, [.tmp 4]) by kernel_rfl) S68ok (fun l x h => by
    unfold A68 at h
    split at h
    · cases h; exact ⟨by kernel_rfl, by kernel_rfl⟩
    · cases h) 4000
inductive X78 where
  | mk (m : List Nat) (a b c d f g h i l n o p r t u w y z A B C D E F G H I J K L M N O Q R S T U W Y Z a1 b1 c1 d1 f1 g1 h1 i1 l1 n1 o1 p1 r1 t1 u1 w1 y1 z1 A1 B1 C1 D1 E1 F1 G1 H1 I1 J1 K1 L1 M1 N1 O1 Q1 R1 S1 T1 : FV)
def T78 (x : X78) : FF := X78.rec (motive := fun _ => FF) (fun m a b c d f g h i l n o p r t u w y z A B C D E F G H I J K L M N O Q R S T U W Y Z a1 b1 c1 d1 f1 g1 h1 i1 l1 n1 o1 p1 r1 t1 u1 w1 y1 z1 A1 B1 C1 D1 E1 F1 G1 H1 I1 J1 K1 L1 M1 N1 O1 Q1 R1 S1 T1 => ⟨(.n a (.n b (.n g (.n D .e .e .e .e) (.n U .e .e .e .e) (.n r1 .e .e .e .e) (.n K1 .e .e .e .e)) (.n n (.n H .e .e .e .e) (.n a1 .e .e .e .e) (.n y1 .e .e .e .e) (.n O1 .e .e .e .e)) (.n t (.n L .e .e .e .e) (.n f1 .e .e .e .e) (.n C1 .e .e .e .e) (.n T1 .e .e .e .e)) (.n z (.n Q .e .e .e .e) (.n l1 .e .e .e .e) (.n G1 .e .e .e .e) .e)) (.n c (.n h (.n E .e .e .e .e) (.n W .e .e .e .e) (.n t1 .e .e .e .e) (.n L1 .e .e .e .e)) (.n o (.n I .e .e .e .e) (.n b1 .e .e .e .e) (.n z1 .e .e .e .e) (.n Q1 .e .e .e .e)) (.n u (.n M .e .e .e .e) (.n g1 .e .e .e .e) (.n D1 .e .e .e .e) .e) (.n A (.n R .e .e .e .e) (.n n1 .e .e .e .e) (.n H1 .e .e .e .e) .e)) (.n d (.n i (.n F .e .e .e .e) (.n Y .e .e .e .e) (.n u1 .e .e .e .e) (.n M1 .e .e .e .e)) (.n p (.n J .e .e .e .e) (.n c1 .e .e .e .e) (.n A1 .e .e .e .e) (.n R1 .e .e .e .e)) (.n w (.n N .e .e .e .e) (.n h1 .e .e .e .e) (.n E1 .e .e .e .e) .e) (.n B (.n S .e .e .e .e) (.n o1 .e .e .e .e) (.n I1 .e .e .e .e) .e)) (.n f (.n l (.n G .e .e .e .e) (.n Z .e .e .e .e) (.n w1 .e .e .e .e) (.n N1 .e .e .e .e)) (.n r (.n K .e .e .e .e) (.n d1 .e .e .e .e) (.n B1 .e .e .e .e) (.n S1 .e .e .e .e)) (.n y (.n O .e .e .e .e) (.n i1 .e .e .e .e) (.n F1 .e .e .e .e) .e) (.n C (.n T .e .e .e .e) (.n p1 .e .e .e .e) (.n J1 .e .e .e .e) .e))), 78, m⟩) x
def c75v : Code := bodyOf P 75
def o75x0 : Array Oper := regO (pth [0] c75v)
def r75x0 : RG X78 := fun call yl x s κ => X78.rec (motive := fun _ => MO X78) (fun m a b c d f g h i l n o p r t u w y z A B C D E F G H I J K L M N O Q R S T U W Y Z a1 b1 c1 d1 f1 g1 h1 i1 l1 n1 o1 p1 r1 t1 u1 w1 y1 z1 A1 B1 C1 D1 E1 F1 G1 H1 I1 J1 K1 L1 M1 N1 O1 Q1 R1 S1 T1 s κ => bxV a 52 s (fun v0 s => κ (X78.mk m a v0 (.b false) d f g h i l n o p r t u w y z A B C D E F G H I J K L M N O Q R S T U W Y Z a1 b1 c1 d1 f1 g1 h1 i1 l1 n1 o1 p1 r1 t1 u1 w1 y1 z1 A1 B1 C1 D1 E1 F1 G1 H1 I1 J1 K1 L1 M1 N1 O1 Q1 R1 S1 T1) s)) x s κ
theorem r75x0ok : RgOk P false o75x0 T78 r75x0 := fun _ _ x _ _ => by cases x; kernel_rfl
def o75x1 : Array Oper := regO (pth [1, 0] c75v)
def r75x1 : RG X78 := fun call yl x s κ => X78.rec (motive := fun _ => MO X78) (fun m a b c d f g h i l n o p r t u w y z A B C D E F G H I J K L M N O Q R S T U W Y Z a1 b1 c1 d1 f1 g1 h1 i1 l1 n1 o1 p1 r1 t1 u1 w1 y1 z1 A1 B1 C1 D1 E1 F1 G1 H1 I1 J1 K1 L1 M1 N1 O1 Q1 R1 S1 T1 s κ => ptrK b 0 s (fun v0 s => ldV v0 false 1 s (fun v1 s => binC v1 (.i .i64 8) 3 .eql P s (fun v2 s => bnk (fun κ1 => wantC v2 true (ptrK b 17 s (κ1)) (κ1 .e s)) (fun v3 s => bnk (fun κ1 => wantC v2 true (ldV v3 true 7 s (κ1)) (κ1 .e s)) (fun v4 s => bnk (fun κ1 => wantC v2 true (call 77 [v4] s (κ1)) (κ1 .e s)) (fun v5 s => bnk (fun κ0 => condB v2 (κ0 v5 s) (κ0 (.b false) s)) (fun v6 s => κ (X78.mk m a b c v6 f g h i l v0 v1 v2 v2 v3 v4 v5 v6 z A B C D E F G H I J K L M N O Q R S T U W Y Z a1 b1 c1 d1 f1 g1 h1 i1 l1 n1 o1 p1 r1 t1 u1 w1 y1 z1 A1 B1 C1 D1 E1 F1 G1 H1 I1 J1 K1 L1 M1 N1 O1 Q1 R1 S1 T1) s)))))))) x s κ
theorem r75x1ok : RgOk P false o75x1 T78 r75x1 := fun _ _ x _ _ => by cases x; kernel_rfl
def o75x2 : Array Oper := regO (pth [1, 1, 0, 0] c75v)
def r75x2 : RG X78 := fun call yl x s κ => X78.rec (motive := fun _ => MO X78) (fun m a b c d f g h i l n o p r t u w y z A B C D E F G H I J K L M N O Q R S T U W Y Z a1 b1 c1 d1 f1 g1 h1 i1 l1 n1 o1 p1 r1 t1 u1 w1 y1 z1 A1 B1 C1 D1 E1 F1 G1 H1 I1 J1 K1 L1 M1 N1 O1 Q1 R1 S1 T1 s κ => call 58 [b] s (fun v0 s => κ (X78.mk m a b c d f g h i l n o p r t u w y v0 (.i .i64 0) B C D E F G H I J K L M N O Q R S T U W Y Z a1 b1 c1 d1 f1 g1 h1 i1 l1 n1 o1 p1 r1 t1 u1 w1 y1 z1 A1 B1 C1 D1 E1 F1 G1 H1 I1 J1 K1 L1 M1 N1 O1 Q1 R1 S1 T1) s)) x s κ
theorem r75x2ok : RgOk P false o75x2 T78 r75x2 := fun _ _ x _ _ => by cases x; kernel_rfl
def o75x3 : Array Oper := regO (pth [1, 1, 0, 1, 0, 0, 0] c75v)
def r75x3 : RG X78 := fun call yl x s κ => X78.rec (motive := fun _ => MO X78) (fun m a b c d f g h i l n o p r t u w y z A B C D E F G H I J K L M N O Q R S T U W Y Z a1 b1 c1 d1 f1 g1 h1 i1 l1 n1 o1 p1 r1 t1 u1 w1 y1 z1 A1 B1 C1 D1 E1 F1 G1 H1 I1 J1 K1 L1 M1 N1 O1 Q1 R1 S1 T1 s κ => binC A (.i .i64 17) 3 .lss P s (fun v0 s => κ (X78.mk m a b c d f g h i l n o p r t u w y z A v0 C D E F G H I J K L M N O Q R S T U W Y Z a1 b1 c1 d1 f1 g1 h1 i1 l1 n1 o1 p1 r1 t1 u1 w1 y1 z1 A1 B1 C1 D1 E1 F1 G1 H1 I1 J1 K1 L1 M1 N1 O1 Q1 R1 S1 T1) s)) x s κ
theorem r75x3ok : RgOk P false o75x3 T78 r75x3 := fun _ _ x _ _ => by cases x; kernel_rfl
def o75x4 : Array Oper := regO (pth [1, 1, 0, 1, 0, 0, 1, 1, 0, 0, 0] c75v)
def r75x4 : RG X78 := fun call yl x s κ => X78.rec (motive := fun _ => MO X78) (fun m a b c d f g h i l n o p r t u w y z A B C D E F G H I J K L M N O Q R S T U W Y Z a1 b1 c1 d1 f1 g1 h1 i1 l1 n1 o1 p1 r1 t1 u1 w1 y1 z1 A1 B1 C1 D1 E1 F1 G1 H1 I1 J1 K1 L1 M1 N1 O1 Q1 R1 S1 T1 s κ => natK A fun j => V.iff (Nat.ble (Nat.succ j) 17) (prV z false (Nat.mul j 1) 1 s (fun v0 s => κ (X78.mk m a b c d A v0 h i l n o p r t u w y z A B A v0 E F G H I J K L M N O Q R S T U W Y Z a1 b1 c1 d1 f1 g1 h1 i1 l1 n1 o1 p1 r1 t1 u1 w1 y1 z1 A1 B1 C1 D1 E1 F1 G1 H1 I1 J1 K1 L1 M1 N1 O1 Q1 R1 S1 T1) s))) x s κ
theorem r75x4ok : RgOk P false o75x4 T78 r75x4 := fun _ _ x _ _ => by cases x; kernel_rfl
def o75x5 : Array Oper := regO (pth [1, 1, 0, 1, 0, 0, 1, 1, 0, 0, 1, 0, 0] c75v)
def r75x5 : RG X78 := fun call yl x s κ => X78.rec (motive := fun _ => MO X78) (fun m a b c d f g h i l n o p r t u w y z A B C D E F G H I J K L M N O Q R S T U W Y Z a1 b1 c1 d1 f1 g1 h1 i1 l1 n1 o1 p1 r1 t1 u1 w1 y1 z1 A1 B1 C1 D1 E1 F1 G1 H1 I1 J1 K1 L1 M1 N1 O1 Q1 R1 S1 T1 s κ => binC g (.o (.p none)) 116 .eql P s (fun v0 s => κ (X78.mk m a b c d f g h i l n o p r t u w y z A B C D g v0 G H I J K L M N O Q R S T U W Y Z a1 b1 c1 d1 f1 g1 h1 i1 l1 n1 o1 p1 r1 t1 u1 w1 y1 z1 A1 B1 C1 D1 E1 F1 G1 H1 I1 J1 K1 L1 M1 N1 O1 Q1 R1 S1 T1) s)) x s κ
theorem r75x5ok : RgOk P false o75x5 T78 r75x5 := fun _ _ x _ _ => by cases x; kernel_rfl
def o75x6 : Array Oper := regO (pth [1, 1, 0, 1, 0, 0, 1, 1, 0, 0, 1, 1, 0] c75v)
def r75x6 : RG X78 := fun call yl x s κ => X78.rec (motive := fun _ => MO X78) (fun m a b c d f g h i l n o p r t u w y z A B C D E F G H I J K L M N O Q R S T U W Y Z a1 b1 c1 d1 f1 g1 h1 i1 l1 n1 o1 p1 r1 t1 u1 w1 y1 z1 A1 B1 C1 D1 E1 F1 G1 H1 I1 J1 K1 L1 M1 N1 O1 Q1 R1 S1 T1 s κ => ptrK b 0 s (fun v0 s => ldV v0 false 1 s (fun v1 s => call 104 [v1, f] s (fun v2 s => exV v2 0 s (fun v3 s => exV v2 1 s (fun v4 s => κ (X78.mk m a b c d f g v3 v4 l n o p r t u w y z A B C D E F v2 v0 v1 f v2 v3 v4 N O Q R S T U W Y Z a1 b1 c1 d1 f1 g1 h1 i1 l1 n1 o1 p1 r1 t1 u1 w1 y1 z1 A1 B1 C1 D1 E1 F1 G1 H1 I1 J1 K1 L1 M1 N1 O1 Q1 R1 S1 T1) s)))))) x s κ
theorem r75x6ok : RgOk P false o75x6 T78 r75x6 := fun _ _ x _ _ => by cases x; kernel_rfl
def o75x7 : Array Oper := regO (pth [1, 1, 0, 1, 0, 0, 1, 1, 0, 0, 1, 1, 1, 0, 0] c75v)
def r75x7 : RG X78 := fun call yl x s κ => X78.rec (motive := fun _ => MO X78) (fun m a b c d f g h i l n o p r t u w y z A B C D E F G H I J K L M N O Q R S T U W Y Z a1 b1 c1 d1 f1 g1 h1 i1 l1 n1 o1 p1 r1 t1 u1 w1 y1 z1 A1 B1 C1 D1 E1 F1 G1 H1 I1 J1 K1 L1 M1 N1 O1 Q1 R1 S1 T1 s κ => κ (X78.mk m a b c d f g h i f n o p r t u w y z A B C D E F G H I J K L M f O Q R S T U W Y Z a1 b1 c1 d1 f1 g1 h1 i1 l1 n1 o1 p1 r1 t1 u1 w1 y1 z1 A1 B1 C1 D1 E1 F1 G1 H1 I1 J1 K1 L1 M1 N1 O1 Q1 R1 S1 T1) s) x s κ
theorem r75x7ok : RgOk P false o75x7 T78 r75x7 := fun _ _ x _ _ => by cases x; kernel_rfl
def o75x8 : Array Oper := regO (pth [1, 1, 0, 1, 0, 0, 1, 1, 0, 0, 1, 1, 1, 0, 1, 0, 0, 0] c75v)
def r75x8 : RG X78 := fun call yl x s κ => X78.rec (motive := fun _ => MO X78) (fun m a b c d f g h i l n o p r t u w y z A B C D E F G H I J K L M N O Q R S T U W Y Z a1 b1 c1 d1 f1 g1 h1 i1 l1 n1 o1 p1 r1 t1 u1 w1 y1 z1 A1 B1 C1 D1 E1 F1 G1 H1 I1 J1 K1 L1 M1 N1 O1 Q1 R1 S1 T1 s κ => ptrK b 0 s (fun v0 s => ldV v0 false 1 s (fun v1 s => call 59 [v1, l] s (fun v2 s => notC v2 s (fun v3 s => κ (X78.mk m a b c d f g h i l n o p r t u w y z A B C D E F G H I J K L M N v3 v0 v1 l v2 v3 W Y Z a1 b1 c1 d1 f1 g1 h1 i1 l1 n1 o1 p1 r1 t1 u1 w1 y1 z1 A1 B1 C1 D1 E1 F1 G1 H1 I1 J1 K1 L1 M1 N1 O1 Q1 R1 S1 T1) s))))) x s κ
theorem r75x8ok : RgOk P false o75x8 T78 r75x8 := fun _ _ x _ _ => by cases x; kernel_rfl
def o75x9 : Array Oper := regO (pth [1, 1, 0, 1, 0, 0, 1, 1, 0, 0, 1, 1, 1, 0, 1, 0, 0, 1, 1] c75v)
def r75x9 : RG X78 := fun call yl x s κ => X78.rec (motive := fun _ => MO X78) (fun m a b c d f g h i l n o p r t u w y z A B C D E F G H I J K L M N O Q R S T U W Y Z a1 b1 c1 d1 f1 g1 h1 i1 l1 n1 o1 p1 r1 t1 u1 w1 y1 z1 A1 B1 C1 D1 E1 F1 G1 H1 I1 J1 K1 L1 M1 N1 O1 Q1 R1 S1 T1 s κ => bnk (fun κ1 => wantC d true (κ1 l s) (κ1 .e s)) (fun v0 s => bnk (fun κ1 => wantC d true (binC v0 (.i .i64 4) 120 .eql P s (κ1)) (κ1 .e s)) (fun v1 s => bnk (fun κ1 => wantC d true (κ1 v1 s) (κ1 .e s)) (fun v2 s => bnk (fun κ1 => wantC v2 false (κ1 l s) (κ1 .e s)) (fun v3 s => bnk (fun κ1 => wantC v2 false (binC v3 (.i .i64 5) 120 .eql P s (κ1)) (κ1 .e s)) (fun v4 s => bnk (fun κ1 => wantC d true (bnk (fun κ0 => condB v2 (κ0 (.b true) s) (κ0 v4 s)) (κ1)) (κ1 .e s)) (fun v5 s => bnk (fun κ1 => wantC d true (κ1 v5 s) (κ1 .e s)) (fun v6 s => bnk (fun κ1 => wantC v6 false (κ1 l s) (κ1 .e s)) (fun v7 s => bnk (fun κ1 => wantC v6 false (binC v7 (.i .i64 6) 120 .eql P s (κ1)) (κ1 .e s)) (fun v8 s => bnk (fun κ1 => wantC d true (bnk (fun κ0 => condB v6 (κ0 (.b true) s) (κ0 v8 s)) (κ1)) (κ1 .e s)) (fun v9 s => bnk (fun κ1 => wantC d true (κ1 v9 s) (κ1 .e s)) (fun v10 s => bnk (fun κ1 => wantC v10 false (κ1 l s) (κ1 .e s)) (fun v11 s => bnk (fun κ1 => wantC v10 false (binC v11 (.i .i64 12) 120 .eql P s (κ1)) (κ1 .e s)) (fun v12 s => bnk (fun κ1 => wantC d true (bnk (fun κ0 => condB v10 (κ0 (.b true) s) (κ0 v12 s)) (κ1)) (κ1 .e s)) (fun v13 s => bnk (fun κ0 => condB d (κ0 v13 s) (κ0 (.b false) s)) (fun v14 s => κ (X78.mk m a b c d f g h i l n o p r t u w y z A B C D E F G H I J K L M N v14 Q R S T U d d v0 v1 v2 v3 v4 v5 v6 v7 v8 v9 v10 v11 v12 v13 v14 u1 w1 y1 z1 A1 B1 C1 D1 E1 F1 G1 H1 I1 J1 K1 L1 M1 N1 O1 Q1 R1 S1 T1) s)))))))))))))))) x s κ
theorem r75x9ok : RgOk P false o75x9 T78 r75x9 := fun _ _ x _ _ => by cases x; kernel_rfl
def o75x10 : Array Oper := regO (pth [1, 1, 0, 1, 0, 0, 1, 1, 0, 0, 1, 1, 1, 0, 1, 0, 1, 0] c75v)
def r75x10 : RG X78 := fun call yl x s κ => X78.rec (motive := fun _ => MO X78) (fun m a b c d f g h i l n o p r t u w y z A B C D E F G H I J K L M N O Q R S T U W Y Z a1 b1 c1 d1 f1 g1 h1 i1 l1 n1 o1 p1 r1 t1 u1 w1 y1 z1 A1 B1 C1 D1 E1 F1 G1 H1 I1 J1 K1 L1 M1 N1 O1 Q1 R1 S1 T1 s κ => κ (X78.mk m a b c d f g (.i .i64 0) (.i .i64 0) l n o p r t u w y z A B C D E F G H I J K L M N O Q R S T U W Y Z a1 b1 c1 d1 f1 g1 h1 i1 l1 n1 o1 p1 r1 t1 u1 w1 y1 z1 A1 B1 C1 D1 E1 F1 G1 H1 I1 J1 K1 L1 M1 N1 O1 Q1 R1 S1 T1) s) x s κ
theorem r75x10ok : RgOk P false o75x10 T78 r75x10 := fun _ _ x _ _ => by cases x; kernel_rfl
def o75x11 : Array Oper := regO (pth [1, 1, 0, 1, 0, 0, 1, 1, 0, 0, 1, 1, 1, 1, 0] c75v)
def r75x11 : RG X78 := fun call yl x s κ => X78.rec (motive := fun _ => MO X78) (fun m a b c d f g h i l n o p r t u w y z A B C D E F G H I J K L M N O Q R S T U W Y Z a1 b1 c1 d1 f1 g1 h1 i1 l1 n1 o1 p1 r1 t1 u1 w1 y1 z1 A1 B1 C1 D1 E1 F1 G1 H1 I1 J1 K1 L1 M1 N1 O1 Q1 R1 S1 T1 s κ => nilC g s (fun v0 s => ldV v0 false 1 s (fun v1 s => binC v1 h 3 .lss P s (fun v2 s => bnk (fun κ1 => wantC v2 false (κ1 g s) (κ1 .e s)) (fun v3 s => bnk (fun κ1 => wantC v2 false (nilC v3 s (κ1)) (κ1 .e s)) (fun v4 s => bnk (fun κ1 => wantC v2 false (ldV v4 false 1 s (κ1)) (κ1 .e s)) (fun v5 s => bnk (fun κ1 => wantC v2 false (κ1 i s) (κ1 .e s)) (fun v6 s => bnk (fun κ1 => wantC v2 false (binC v5 v6 3 .gtr P s (κ1)) (κ1 .e s)) (fun v7 s => bnk (fun κ0 => condB v2 (κ0 (.b true) s) (κ0 v7 s)) (fun v8 s => κ (X78.mk m a b c d f g h i l n o p r t u w y z A B C D E F G H I J K L M N O Q R S T U W Y Z a1 b1 c1 d1 f1 g1 h1 i1 l1 n1 o1 p1 r1 t1 g v0 v1 h v2 v2 v3 v4 v5 v6 v7 v8 I1 J1 K1 L1 M1 N1 O1 Q1 R1 S1 T1) s)))))))))) x s κ
theorem r75x11ok : RgOk P false o75x11 T78 r75x11 := fun _ _ x _ _ => by cases x; kernel_rfl
def o75x12 : Array Oper := regO (pth [1, 1, 0, 1, 0, 0, 1, 1, 0, 0, 1, 1, 1, 1, 1, 0, 0] c75v)
def r75x12 : RG X78 := fun call yl x s κ => X78.rec (motive := fun _ => MO X78) (fun m a b c d f g h i l n o p r t u w y z A B C D E F G H I J K L M N O Q R S T U W Y Z a1 b1 c1 d1 f1 g1 h1 i1 l1 n1 o1 p1 r1 t1 u1 w1 y1 z1 A1 B1 C1 D1 E1 F1 G1 H1 I1 J1 K1 L1 M1 N1 O1 Q1 R1 S1 T1 s κ => κ (X78.mk m a b (.b false) d f g h i l n o p r t u w y z A B C D E F G H I J K L M N O Q R S T U W Y Z a1 b1 c1 d1 f1 g1 h1 i1 l1 n1 o1 p1 r1 t1 u1 w1 y1 z1 A1 B1 C1 D1 E1 F1 G1 H1 I1 J1 K1 L1 M1 N1 O1 Q1 R1 S1 T1) s) x s κ
theorem r75x12ok : RgOk P false o75x12 T78 r75x12 := fun _ _ x _ _ => by cases x; kernel_rfl
def o75x13 : Array Oper := regO (pth [1, 1, 0, 1, 0, 0, 1, 1, 1] c75v)
def r75x13 : RG X78 := fun call yl x s κ => X78.rec (motive := fun _ => MO X78) (fun m a b c d f g h i l n o p r t u w y z A B C D E F G H I J K L M N O Q R S T U W Y Z a1 b1 c1 d1 f1 g1 h1 i1 l1 n1 o1 p1 r1 t1 u1 w1 y1 z1 A1 B1 C1 D1 E1 F1 G1 H1 I1 J1 K1 L1 M1 N1 O1 Q1 R1 S1 T1 s κ => binC A (.i .i64 1) 3 .add P s (fun v0 s => κ (X78.mk m a b c d f g h i l n o p r t u w y z v0 B C D E F G H I J K L M N O Q R S T U W Y Z a1 b1 c1 d1 f1 g1 h1 i1 l1 n1 o1 p1 r1 t1 u1 w1 y1 z1 A1 B1 C1 D1 E1 F1 G1 H1 v0 J1 K1 L1 M1 N1 O1 Q1 R1 S1 T1) s)) x s κ
theorem r75x13ok : RgOk P false o75x13 T78 r75x13 := fun _ _ x _ _ => by cases x; kernel_rfl
def o75x14 : Array Oper := regO (pth [1, 1, 1, 0] c75v)
def r75x14 : RG X78 := fun call yl x s κ => X78.rec (motive := fun _ => MO X78) (fun m a b c d f g h i l n o p r t u w y z A B C D E F G H I J K L M N O Q R S T U W Y Z a1 b1 c1 d1 f1 g1 h1 i1 l1 n1 o1 p1 r1 t1 u1 w1 y1 z1 A1 B1 C1 D1 E1 F1 G1 H1 I1 J1 K1 L1 M1 N1 O1 Q1 R1 S1 T1 s κ => ptrK b 0 s (fun v0 s => ldV v0 false 1 s (fun v1 s => binC v1 (.i .i64 5) 3 .neq P s (fun v2 s => bnk (fun κ1 => wantC v2 false (ptrK b 8 s (κ1)) (κ1 .e s)) (fun v3 s => bnk (fun κ1 => wantC v2 false (ldV v3 false 1 s (κ1)) (κ1 .e s)) (fun v4 s => bnk (fun κ1 => wantC v2 false (ptrK b 7 s (κ1)) (κ1 .e s)) (fun v5 s => bnk (fun κ1 => wantC v2 false (ldV v5 false 1 s (κ1)) (κ1 .e s)) (fun v6 s => bnk (fun κ1 => wantC v2 false (binC v4 v6 3 .neq P s (κ1)) (κ1 .e s)) (fun v7 s => bnk (fun κ0 => condB v2 (κ0 (.b true) s) (κ0 v7 s)) (fun v8 s => κ (X78.mk m a b v8 d f g h i l n o p r t u w y z A B C D E F G H I J K L M N O Q R S T U W Y Z a1 b1 c1 d1 f1 g1 h1 i1 l1 n1 o1 p1 r1 t1 u1 w1 y1 z1 A1 B1 C1 D1 E1 F1 G1 H1 I1 v0 v1 v2 v2 v3 v4 v5 v6 v7 v8) s)))))))))) x s κ
theorem r75x14ok : RgOk P false o75x14 T78 r75x14 := fun _ _ x _ _ => by cases x; kernel_rfl
def S75 : SF X78 := (seqS (regS P t1.fq r75x0) (seqS (regS P t1.fq r75x1) (seqS (seqS (regS P t1.fq r75x2) (blkS 0 (loopS (seqS (regS P t1.fq r75x3) (seqS (condS (fun x => X78.rec (motive := fun _ => FV) (fun _ _ _ _ _ _ _ _ _ _ _ _ _ _ _ _ _ _ _ _ z _ _ _ _ _ _ _ _ _ _ _ _ _ _ _ _ _ _ _ _ _ _ _ _ _ _ _ _ _ _ _ _ _ _ _ _ _ _ _ _ _ _ _ _ _ _ _ _ _ _ _ _ _ _ _ _ _ _ => z) x) skipS (exitS 0)) (seqS (blkS 1 (seqS (regS P t1.fq r75x4) (seqS (seqS (regS P t1.fq r75x5) (condS (fun x => X78.rec (motive := fun _ => FV) (fun _ _ _ _ _ _ _ _ _ _ _ _ _ _ _ _ _ _ _ _ _ _ _ _ z _ _ _ _ _ _ _ _ _ _ _ _ _ _ _ _ _ _ _ _ _ _ _ _ _ _ _ _ _ _ _ _ _ _ _ _ _ _ _ _ _ _ _ _ _ _ _ _ _ _ _ _ _ _ => z) x) (exitS 1) skipS)) (seqS (regS P t1.fq r75x6) (seqS (seqS (regS P t1.fq r75x7) (blkS 2 (seqS (seqS (regS P t1.fq r75x8) (condS (fun x => X78.rec (motive := fun _ => FV) (fun _ _ _ _ _ _ _ _ _ _ _ _ _ _ _ _ _ _ _ _ _ _ _ _ _ _ _ _ _ _ _ _ _ z _ _ _ _ _ _ _ _ _ _ _ _ _ _ _ _ _ _ _ _ _ _ _ _ _ _ _ _ _ _ _ _ _ _ _ _ _ _ _ _ _ _ _ _ _ => z) x) skipS (regS P t1.fq r75x9))) (condS (fun x => X78.rec (motive := fun _ => FV) (fun _ _ _ _ _ _ _ _ _ _ _ _ _ _ _ _ _ _ _ _ _ _ _ _ _ _ _ _ _ _ _ _ _ z _ _ _ _ _ _ _ _ _ _ _ _ _ _ _ _ _ _ _ _ _ _ _ _ _ _ _ _ _ _ _ _ _ _ _ _ _ _ _ _ _ _ _ _ _ => z) x) (regS P t1.fq r75x10) skipS)))) (seqS (regS P t1.fq r75x11) (condS (fun x => X78.rec (motive := fun _ => FV) (fun _ _ _ _ _ _ _ _ _ _ _ _ _ _ _ _ _ _ _ _ _ _ _ _ _ _ _ _ _ _ _ _ _ _ _ _ _ _ _ _ _ _ _ _ _ _ _ _ _ _ _ _ _ _ _ _ _ _ _ _ _ _ _ _ _ _ _ z _ _ _ _ _ _ _ _ _ _ _ => z) x) (seqS (regS P t1.fq r75x12) retS) skipS))))))) (regS P t1.fq r75x13))))))) (seqS (regS P t1.fq r75x14) retS))))
theorem S75ok : Sh P t1.fq T78 c75v S75 := by
  have e : c75v = (.seq (.region 0 o75x0 false) (.seq (.region 1 o75x1 false) (.seq (.seq (.region 2 o75x2 false) (.block 0 (.loop (.seq (.region 3 o75x3 false) (.seq (.cond (.tmp 19) .skip (.exit 0)) (.seq (.block 1 (.seq (.region 4 o75x4 false) (.seq (.seq (.region 5 o75x5 false) (.cond (.tmp 23) (.exit 1) .skip)) (.seq (.region 6 o75x6 false) (.seq (.seq (.region 7 o75x7 false) (.block 2 (.seq (.seq (.region 8 o75x8 false) (.cond (.tmp 32) .skip (.region 9 o75x9 false))) (.cond (.tmp 32) (.region 10 o75x10 false) .skip)))) (.seq (.region 11 o75x11 false) (.cond (.tmp 66) (.seq (.region 12 o75x12 false) .ret) .skip))))))) (.region 13 o75x13 false))))))) (.seq (.region 14 o75x14 false) .ret)))) := by kernel_rfl
  rw [e]
  exact (sh_seq (sh_reg r75x0ok) (sh_seq (sh_reg r75x1ok) (sh_seq (sh_seq (sh_reg r75x2ok) (sh_blk 0 (sh_loop (sh_seq (sh_reg r75x3ok) (sh_seq (sh_cond (fun x => by cases x; rfl) sh_skip (sh_exit 0)) (sh_seq (sh_blk 1 (sh_seq (sh_reg r75x4ok) (sh_seq (sh_seq (sh_reg r75x5ok) (sh_cond (fun x => by cases x; rfl) (sh_exit 1) sh_skip)) (sh_seq (sh_reg r75x6ok) (sh_seq (sh_seq (sh_reg r75x7ok) (sh_blk 2 (sh_seq (sh_seq (sh_reg r75x8ok) (sh_cond (fun x => by cases x; rfl) sh_skip (sh_reg r75x9ok))) (sh_cond (fun x => by cases x; rfl) (sh_reg r75x10ok) sh_skip)))) (sh_seq (sh_reg r75x11ok) (sh_cond (fun x => by cases x; rfl) (sh_seq (sh_reg r75x12ok) sh_ret) sh_skip))))))) (sh_reg r75x13ok))))))) (sh_seq (sh_reg r75x14ok) sh_ret))))
def A75 : List FV → Option X78 := fun l => match l with
  | [a] => some (X78.mk [] a .e .e .e .e .e .e .e .e .e .e .e .e .e .e .e .e .e .e .e .e .e .e .e .e .e .e .e .e .e .e .e .e .e .e .e .e .e .e .e .e .e .e .e .e .e .e .e .e .e .e .e .e .e .e .e .e .e .e .e .e .e .e .e .e .e .e .e .e .e .e .e .e .e .e .e .e .e)
  | _ => none
def L75 : LQ := shal P T78 S75 [.tmp 2] 4000 A75
def E75 : LA := evCall P t1.fa 4000 75
theorem G75 : Good P 75 L75 E75 := good_shal all1 (by kernel_rfl) (show FT P 75 = some (c75v, 78, [.tmp 2]) by kernel_rfl) S75ok (fun l x h => by
    unfold A75 at h
    split at h
    · cases h; exact ⟨by kernel_rfl, by kernel_rfl⟩
    · cases h) 4000
def t2 : LT := (.n 75 L75 E75 (.n 58 L58 E58 (.n 50 L50 E50 (.n 49 L49 E49 (.n 48 L48 E48 .e .e) .e) (.n 57 L57 E57 (.n 52 L52 E52 .e .e) .e)) (.n 70 L70 E70 (.n 68 L68 E68 (.n 59 L59 E59 .e .e) .e) (.n 72 L72 E72 .e .e))) (.n 104 L104 E104 (.n 95 L95 E95 (.n 88 L88 E88 (.n 82 L82 E82 .e .e) .e) (.n 101 L101 E101 (.n 96 L96 E96 .e .e) .e)) (.n 117 L117 E117 (.n 116 L116 E116 (.n 115 L115 E115 .e .e) .e) (.n 142 L142 E142 .e .e))))
theorem all2 : t2.all (Good P) := ⟨G75, ⟨G58, ⟨G50, ⟨G49, ⟨G48, trivial, trivial⟩, trivial⟩, ⟨G57, ⟨G52, trivial, trivial⟩, trivial⟩⟩, ⟨G70, ⟨G68, ⟨G59, trivial, trivial⟩, trivial⟩, ⟨G72, trivial, trivial⟩⟩⟩, ⟨G104, ⟨G95, ⟨G88, ⟨G82, trivial, trivial⟩, trivial⟩, ⟨G101, ⟨G96, trivial, trivial⟩, trivial⟩⟩, ⟨G117, ⟨G116, ⟨G115, trivial, trivial⟩, trivial⟩, ⟨G142, trivial, trivial⟩⟩⟩⟩
end
end V
end Go.CE
namespace Go.CE
namespace V
set_option maxRecDepth 100000
noncomputable section
variable [Sym] [SymOk]
def c83v : Code := bodyOf P 83
def o83x0 : Array Oper := regO (pth [0] c83v)
def r83x0 : RG X23 := fun call yl x s κ => X23.rec (motive := fun _ => MO X23) (fun m a b c d f g h i l n o p r t u w y z A B C D E s κ => κ (X23.mk m a b c d (.i .i64 0) g h i l n o p r t u w y z A B C D E) s) x s κ
theorem r83x0ok : RgOk P false o83x0 T23 r83x0 := fun _ _ x _ _ => by cases x; kernel_rfl
def o83x1 : Array Oper := regO (pth [1, 0] c83v)
def r83x1 : RG X23 := fun call yl x s κ => X23.rec (motive := fun _ => MO X23) (fun m a b c d f g h i l n o p r t u w y z A B C D E s κ => allocC P 3 s (fun v0 s => stA v0 (.i .i64 0) 1 s (fun _ s => κ (X23.mk m a b c d f v0 h i l n o p r t u w y z A B C D E) s))) x s κ
theorem r83x1ok : RgOk P false o83x1 T23 r83x1 := fun _ _ x _ _ => by cases x; kernel_rfl
def o83x2 : Array Oper := regO (pth [1, 1, 0, 0] c83v)
def r83x2 : RG X23 := fun call yl x s κ => X23.rec (motive := fun _ => MO X23) (fun m a b c d f g h i l n o p r t u w y z A B C D E s κ => nilC a s (fun v0 s => ptrK v0 1 s (fun v1 s => ldV v1 false 1 s (fun v2 s => callV v2 [b] call yl s (fun v3 s => call 117 [v3] s (fun v4 s => κ (X23.mk m a b c d f g h i a v0 v1 v2 b v3 v4 w y z A B C D E) s)))))) x s κ
theorem r83x2ok : RgOk P false o83x2 T23 r83x2 := fun _ _ x _ _ => by cases x; kernel_rfl
def g83x3 : Code × Code := rngO (pth [1, 1, 0, 1, 0] c83v)
def o83x4 : Array Oper := regO (pth [1, 1, 1, 0] c83v)
def r83x4 : RG X23 := fun call yl x s κ => X23.rec (motive := fun _ => MO X23) (fun m a b c d f g h i l n o p r t u w y z A B C D E s κ => ldV g false 1 s (fun v0 s => κ (X23.mk m a b c d v0 g h i l n o p r t u w y z A B C D v0) s)) x s κ
theorem r83x4ok : RgOk P false o83x4 T23 r83x4 := fun _ _ x _ _ => by cases x; kernel_rfl
def S83 : SF X23 := (seqS (regS P t2.fq r83x0) (seqS (regS P t2.fq r83x1) (seqS (seqS (regS P t2.fq r83x2) (blkS 0 (rngS P t2.fq T23 (fun δ x => X23.rec (motive := fun _ => X23) (fun m a b c d f g h i l n o p r t u w y z A B C D E => X23.mk (δ :: m) a b c d f g h i l n o p r t u w y z A B C D E) x) (fun x => X23.rec (motive := fun _ => FV) (fun _ _ _ _ _ _ _ _ _ _ _ _ _ _ _ z _ _ _ _ _ _ _ _ => z) x) [15, 16] g83x3.1 g83x3.2))) (seqS (regS P t2.fq r83x4) retS))))
theorem S83ok : Sh P t2.fq T23 c83v S83 := by
  have e : c83v = (.seq (.region 0 o83x0 false) (.seq (.region 1 o83x1 false) (.seq (.seq (.region 2 o83x2 false) (.block 0 (.rangeFunc (.tmp 14) #[15, 16] g83x3.1 g83x3.2))) (.seq (.region 5 o83x4 false) .ret)))) := by kernel_rfl
  rw [e]
  exact (sh_seq (sh_reg r83x0ok) (sh_seq (sh_reg r83x1ok) (sh_seq (sh_seq (sh_reg r83x2ok) (sh_blk 0 (sh_rng (mk := (fun δ x => X23.rec (motive := fun _ => X23) (fun m a b c d f g h i l n o p r t u w y z A B C D E => X23.mk (δ :: m) a b c d f g h i l n o p r t u w y z A B C D E) x)) (get := (fun x => X23.rec (motive := fun _ => FV) (fun _ _ _ _ _ _ _ _ _ _ _ _ _ _ _ z _ _ _ _ _ _ _ _ => z) x)) (fun x => by cases x; rfl) (fun d x => by cases x; rfl)))) (sh_seq (sh_reg r83x4ok) sh_ret))))
def A83 : List FV → Option X23 := fun l => match l with
  | [a, b] => some (X23.mk [] a b .e .e .e .e .e .e .e .e .e .e .e .e .e .e .e .e .e .e .e .e .e)
  | _ => none
def L83 : LQ := shal P T23 S83 [.tmp 4] 4000 A83
def E83 : LA := evCall P t2.fa 4000 83
theorem G83 : Good P 83 L83 E83 := good_shal all2 (by kernel_rfl) (show FT P 83 = some (c83v, 23, [.tmp 4]) by kernel_rfl) S83ok (fun l x h => by
    unfold A83 at h
    split at h
    · cases h; exact ⟨by kernel_rfl, by kernel_rfl⟩
    · cases h) 4000
def t3 : LT := (.n 82 L82 E82 (.n 58 L58 E58 (.n 50 L50 E50 (.n 49 L49 E49 (.n 48 L48 E48 .e .e) .e) (.n 57 L57 E57 (.n 52 L52 E52 .e .e) .e)) (.n 70 L70 E70 (.n 68 L68 E68 (.n 59 L59 E59 .e .e) .e) (.n 75 L75 E75 (.n 72 L72 E72 .e .e) .e))) (.n 104 L104 E104 (.n 95 L95 E95 (.n 88 L88 E88 (.n 83 L83 E83 .e .e) .e) (.n 101 L101 E101 (.n 96 L96 E96 .e .e) .e)) (.n 117 L117 E117 (.n 116 L116 E116 (.n 115 L115 E115 .e .e) .e) (.n 142 L142 E142 .e .e))))
theorem all3 : t3.all (Good P) := ⟨G82, ⟨G58, ⟨G50, ⟨G49, ⟨G48, trivial, trivial⟩, trivial⟩, ⟨G57, ⟨G52, trivial, trivial⟩, trivial⟩⟩, ⟨G70, ⟨G68, ⟨G59, trivial, trivial⟩, trivial⟩, ⟨G75, ⟨G72, trivial, trivial⟩, trivial⟩⟩⟩, ⟨G104, ⟨G95, ⟨G88, ⟨G83, trivial, trivial⟩, trivial⟩, ⟨G101, ⟨G96, trivial, trivial⟩, trivial⟩⟩, ⟨G117, ⟨G116, ⟨G115, trivial, trivial⟩, trivial⟩, ⟨G142, trivial, trivial⟩⟩⟩⟩
end
end V
end Go.CE
namespace Go.CE
namespace V
variable [Sym] [SymOk]
noncomputable def tL : LT := t3
theorem allL : tL.all (Good P) := all3
end V
end Go.CE
