/-
  The first tree of laws for letters: which fields the kinds use, their limits.
-/
import Derived.Test.YtednpkiegiiimaaGreatDoorPkTab
set_option linter.unusedSectionVars false
set_option linter.constructorNameAsVariable false
set_option linter.unusedVariables false
set_option linter.unusedSimpArgs false
namespace Go.CE
namespace V
variable [Sym] [SymOk]
noncomputable def P : Program := Go.Proofs.Tryz.prog
noncomputable def L42 : LQ := pairQ usesA
noncomputable def E42 : LA := pairE usesA
theorem G42 : Good P 42 L42 E42 := uses_good
noncomputable def L73 : LQ := pairQ limitsA
noncomputable def E73 : LA := pairE limitsA
theorem G73 : Good P 73 L73 E73 := limits_good
noncomputable def t0 : LT := .n 42 L42 E42 .e (.n 73 L73 E73 .e .e)
theorem all0 : t0.all (Good P) := ⟨G42, trivial, ⟨G73, trivial, trivial⟩⟩
end V
end Go.CE
namespace Go.CE
namespace V
set_option maxRecDepth 100000
noncomputable section
variable [Sym] [SymOk]
inductive X23 where
  | mk (m : List Nat) (a b c d f g h i l n o p r t u w y z A B C D E : FV)
def T23 (x : X23) : FF := X23.rec (motive := fun _ => FF) (fun m a b c d f g h i l n o p r t u w y z A B C D E => ⟨(.n a (.n b (.n g (.n D .e .e .e .e) .e .e .e) (.n n .e .e .e .e) (.n t .e .e .e .e) (.n z .e .e .e .e)) (.n c (.n h (.n E .e .e .e .e) .e .e .e) (.n o .e .e .e .e) (.n u .e .e .e .e) (.n A .e .e .e .e)) (.n d (.n i .e .e .e .e) (.n p .e .e .e .e) (.n w .e .e .e .e) (.n B .e .e .e .e)) (.n f (.n l .e .e .e .e) (.n r .e .e .e .e) (.n y .e .e .e .e) (.n C .e .e .e .e))), 23, m⟩) x
def c86v : Code := bodyOf P 86
def o86x0 : Array Oper := regO (pth [0] c86v)
def r86x0 : RG X23 := fun call yl x s κ => X23.rec (motive := fun _ => MO X23) (fun m a b c d f g h i l n o p r t u w y z A B C D E s κ => κ (X23.mk m a b c d f g c (.i .i64 0) l n o p r t u w y z A B C D E) s) x s κ
theorem r86x0ok : RgOk P false o86x0 T23 r86x0 := fun _ _ x _ _ => by cases x; kernel_rfl
def o86x1 : Array Oper := regO (pth [1, 0, 0, 0] c86v)
def r86x1 : RG X23 := fun call yl x s κ => X23.rec (motive := fun _ => MO X23) (fun m a b c d f g h i l n o p r t u w y z A B C D E s κ => binC i h 3 .lss P s (fun v0 s => κ (X23.mk m a b c d f g h i v0 n o p r t u w y z A B C D E) s)) x s κ
theorem r86x1ok : RgOk P false o86x1 T23 r86x1 := fun _ _ x _ _ => by cases x; kernel_rfl
def o86x2 : Array Oper := regO (pth [1, 0, 0, 1, 1, 0, 0, 0] c86v)
def r86x2 : RG X23 := fun call yl x s κ => X23.rec (motive := fun _ => MO X23) (fun m a b c d f g h i l n o p r t u w y z A B C D E s κ => nilC a s (fun v0 s => ptrK v0 1 s (fun v1 s => ldV v1 false 1 s (fun v2 s => cvV b .u8 s (fun v3 s => buildSliceC P 57 1 [(0, v3)] s (fun v4 s => appendC P 57 57 v2 v4 s (fun v5 s => nilC a s (fun v6 s => ptrK v6 1 s (fun v7 s => stA v7 v5 1 s (fun _ s => κ (X23.mk m a b c d f g h i l a a v0 v1 v2 b v3 v4 v5 v6 v7 C D E) s)))))))))) x s κ
theorem r86x2ok : RgOk P false o86x2 T23 r86x2 := fun _ _ x _ _ => by cases x; kernel_rfl
def o86x3 : Array Oper := regO (pth [1, 0, 0, 1, 1, 0, 0, 1] c86v)
def r86x3 : RG X23 := fun call yl x s κ => X23.rec (motive := fun _ => MO X23) (fun m a b c d f g h i l n o p r t u w y z A B C D E s κ => binC b (.i .u64 8) 3 .shr P s (fun v0 s => κ (X23.mk m a v0 c d f g h i l n o p r t u w y z A B b v0 E) s)) x s κ
theorem r86x3ok : RgOk P false o86x3 T23 r86x3 := fun _ _ x _ _ => by cases x; kernel_rfl
def o86x4 : Array Oper := regO (pth [1, 0, 0, 1, 1, 1] c86v)
def r86x4 : RG X23 := fun call yl x s κ => X23.rec (motive := fun _ => MO X23) (fun m a b c d f g h i l n o p r t u w y z A B C D E s κ => binC i (.i .i64 1) 3 .add P s (fun v0 s => κ (X23.mk m a b c d f g h v0 l n o p r t u w y z A B C D v0) s)) x s κ
theorem r86x4ok : RgOk P false o86x4 T23 r86x4 := fun _ _ x _ _ => by cases x; kernel_rfl
def S86 : SF X23 := (seqS (regS P t0.fq r86x0) (blkS 0 (loopS (seqS (regS P t0.fq r86x1) (seqS (condS (fun x => X23.rec (motive := fun _ => FV) (fun _ _ _ _ _ _ _ _ _ z _ _ _ _ _ _ _ _ _ _ _ _ _ _ => z) x) skipS (exitS 0)) (seqS (blkS 1 (seqS (regS P t0.fq r86x2) (regS P t0.fq r86x3))) (regS P t0.fq r86x4)))))))
theorem S86ok : Sh P t0.fq T23 c86v S86 := by
  have e : c86v = (.seq (.region 0 o86x0 false) (.block 0 (.loop (.seq (.region 1 o86x1 false) (.seq (.cond (.tmp 8) .skip (.exit 0)) (.seq (.block 1 (.seq (.region 2 o86x2 false) (.region 3 o86x3 false))) (.region 4 o86x4 false))))))) := by kernel_rfl
  rw [e]
  exact (sh_seq (sh_reg r86x0ok) (sh_blk 0 (sh_loop (sh_seq (sh_reg r86x1ok) (sh_seq (sh_cond (fun x => by cases x; rfl) sh_skip (sh_exit 0)) (sh_seq (sh_blk 1 (sh_seq (sh_reg r86x2ok) (sh_reg r86x3ok))) (sh_reg r86x4ok)))))))
def A86 : List FV → Option X23 := fun l => match l with
  | [a, b, c] => some (X23.mk [] a b c .e .e .e .e .e .e .e .e .e .e .e .e .e .e .e .e .e .e .e .e)
  | _ => none
def L86 : LQ := shal P T23 S86 [] 4000 A86
def E86 : LA := evCall P t0.fa 4000 86
theorem G86 : Good P 86 L86 E86 := good_shal all0 (by kernel_rfl) (show FT P 86 = some (c86v, 23, []) by kernel_rfl) S86ok (fun l x h => by
    unfold A86 at h
    split at h
    · cases h; exact ⟨by kernel_rfl, by kernel_rfl⟩
    · cases h) 4000
inductive X30 where
  | mk (m : List Nat) (a b c d f g h i l n o p r t u w y z A B C D E F G H I J K L : FV)
def T30 (x : X30) : FF := X30.rec (motive := fun _ => FF) (fun m a b c d f g h i l n o p r t u w y z A B C D E F G H I J K L => ⟨(.n a (.n b (.n g (.n D .e .e .e .e) .e .e .e) (.n n (.n H .e .e .e .e) .e .e .e) (.n t (.n L .e .e .e .e) .e .e .e) (.n z .e .e .e .e)) (.n c (.n h (.n E .e .e .e .e) .e .e .e) (.n o (.n I .e .e .e .e) .e .e .e) (.n u .e .e .e .e) (.n A .e .e .e .e)) (.n d (.n i (.n F .e .e .e .e) .e .e .e) (.n p (.n J .e .e .e .e) .e .e .e) (.n w .e .e .e .e) (.n B .e .e .e .e)) (.n f (.n l (.n G .e .e .e .e) .e .e .e) (.n r (.n K .e .e .e .e) .e .e .e) (.n y .e .e .e .e) (.n C .e .e .e .e))), 30, m⟩) x
def c141v : Code := bodyOf P 141
def o141x0 : Array Oper := regO (pth [0] c141v)
def r141x0 : RG X30 := fun call yl x s κ => X30.rec (motive := fun _ => MO X30) (fun m a b c d f g h i l n o p r t u w y z A B C D E F G H I J K L s κ => κ (X30.mk m a b c d (.o (.sl none 0 0)) g h i l n o p r t u w y z A B C D E F G H I J K L) s) x s κ
theorem r141x0ok : RgOk P false o141x0 T30 r141x0 := fun _ _ x _ _ => by cases x; kernel_rfl
def o141x1 : Array Oper := regO (pth [1, 0, 0] c141v)
def r141x1 : RG X30 := fun call yl x s κ => X30.rec (motive := fun _ => MO X30) (fun m a b c d f g h i l n o p r t u w y z A B C D E F G H I J K L s κ => sandS (fun s κ1 => ldV b false 1 s (κ1)) s (fun qv0 v1 s => sandS (fun s κ1 => ldV b false 1 s (κ1)) s (fun qv2 v3 s => sandS (fun s κ1 => nilC v3 s (κ1)) s (fun qv4 v5 s => sandS (fun s κ1 => ptrK v5 2 s (κ1)) s (fun qv6 v7 s => sandS (fun s κ1 => ldV v7 false 1 s (κ1)) s (fun qv8 v9 s => (fun qv10 => sandS (fun s κ1 => bnk (fun κ1 => wantC v9 false (κ1 a s) (κ1 .e s)) κ1) s (fun qv11 v12 s => sandS (fun s κ1 => bnk (fun κ1 => wantC v9 false (ldV c false 1 s (κ1)) (κ1 .e s)) κ1) s (fun qv13 v14 s => sandS (fun s κ1 => bnk (fun κ1 => wantC v9 false (lenC v14 P 57 s (κ1)) (κ1 .e s)) κ1) s (fun qv15 v16 s => sandS (fun s κ1 => bnk (fun κ1 => wantC v9 false (binC v12 v16 3 .gtr P s (κ1)) (κ1 .e s)) κ1) s (fun qv17 v18 s => sandS (fun s κ1 => bnk (fun κ0 => condB v9 (κ0 (.b true) s) (κ0 v18 s)) (κ1)) s (fun qv19 v20 s => sandS (fun s κ1 => nilC v1 s (κ1)) s (fun qv21 v22 s => sandS (fun s κ1 => ptrK v22 2 s (κ1)) s (fun qv23 v24 s => sandS (fun s κ1 => stA v24 v20 1 s (κ1)) s (fun qv25 v26 s => V.iff (dynA [] [qv0, qv2, qv4, qv6, qv8, qv10, qv11, qv13, qv15, qv17, qv19, qv21, qv23, qv25] [[], [true], [true, false], [true, false, false], [true, false, false, false], [true, false, false, false, false], [true, false, false, false, false, false], [true, false, false, false, false, false, true], [true, false, false, false, false, false, true, false], [true, false, false, false, false, false, false, false, false], [true, false, false, false, false, false, false, false, false, false], [false, false, false, false, false, false, false, false, false, false, false], [false, false, false, false, false, false, false, false, false, false, false, false], [false, false, false, false, false, false, false, false, false, false, false, false, false]]) (κ (X30.mk m a b c d f g v1 v3 v5 v7 v9 v9 v12 v14 v16 v18 v20 v22 v24 B C D E F G H I J K L) s)))))))))) (qz s))))))) x s κ
theorem r141x1ok : RgOk P true o141x1 T30 r141x1 := fun _ _ x _ _ => by cases x; kernel_rfl
def o141x2 : Array Oper := regO (pth [1, 0, 1, 0] c141v)
def r141x2 : RG X30 := fun call yl x s κ => X30.rec (motive := fun _ => MO X30) (fun m a b c d f g h i l n o p r t u w y z A B C D E F G H I J K L s κ => ldV b false 1 s (fun v0 s => nilC v0 s (fun v1 s => ptrK v1 2 s (fun v2 s => ldV v2 false 1 s (fun v3 s => κ (X30.mk m a b c d f g h i l n o p r t u w y z A v0 v1 v2 v3 F G H I J K L) s))))) x s κ
theorem r141x2ok : RgOk P false o141x2 T30 r141x2 := fun _ _ x _ _ => by cases x; kernel_rfl
def o141x3 : Array Oper := regO (pth [1, 0, 1, 1, 0, 0] c141v)
def r141x3 : RG X30 := fun call yl x s κ => X30.rec (motive := fun _ => MO X30) (fun m a b c d f g h i l n o p r t u w y z A B C D E F G H I J K L s κ => κ (X30.mk m a b c d (.o (.sl none 0 0)) g h i l n o p r t u w y z A B C D E F G H I J K L) s) x s κ
theorem r141x3ok : RgOk P false o141x3 T30 r141x3 := fun _ _ x _ _ => by cases x; kernel_rfl
def o141x4 : Array Oper := regO (pth [1, 1, 0] c141v)
def r141x4 : RG X30 := fun call yl x s κ => X30.rec (motive := fun _ => MO X30) (fun m a b c d f g h i l n o p r t u w y z A B C D E F G H I J K L s κ => ldV c false 1 s (fun v0 s => sliceC P 57 v0 none (some a) none s (fun v1 s => κ (X30.mk m a b c d f v1 h i l n o p r t u w y z A B C D E v0 a v1 I J K L) s))) x s κ
theorem r141x4ok : RgOk P false o141x4 T30 r141x4 := fun _ _ x _ _ => by cases x; kernel_rfl
def o141x5 : Array Oper := regO (pth [1, 1, 1, 0] c141v)
def r141x5 : RG X30 := fun call yl x s κ => X30.rec (motive := fun _ => MO X30) (fun m a b c d f g h i l n o p r t u w y z A B C D E F G H I J K L s κ => ldV c false 1 s (fun v0 s => sliceC P 57 v0 (some a) none none s (fun v1 s => stA c v1 1 s (fun _ s => κ (X30.mk m a b c d f g h i l n o p r t u w y z A B C D E F G H v0 a v1 L) s)))) x s κ
theorem r141x5ok : RgOk P false o141x5 T30 r141x5 := fun _ _ x _ _ => by cases x; kernel_rfl
def o141x6 : Array Oper := regO (pth [1, 1, 1, 1, 0] c141v)
def r141x6 : RG X30 := fun call yl x s κ => X30.rec (motive := fun _ => MO X30) (fun m a b c d f g h i l n o p r t u w y z A B C D E F G H I J K L s κ => κ (X30.mk m a b c d g g h i l n o p r t u w y z A B C D E F G H I J K g) s) x s κ
theorem r141x6ok : RgOk P false o141x6 T30 r141x6 := fun _ _ x _ _ => by cases x; kernel_rfl
def S141 : SF X30 := (seqS (regS P t0.fq r141x0) (seqS (seqS (regS P t0.fq r141x1) (seqS (regS P t0.fq r141x2) (condS (fun x => X30.rec (motive := fun _ => FV) (fun _ _ _ _ _ _ _ _ _ _ _ _ _ _ _ _ _ _ _ _ _ _ _ z _ _ _ _ _ _ _ => z) x) (seqS (regS P t0.fq r141x3) retS) skipS))) (seqS (regS P t0.fq r141x4) (seqS (regS P t0.fq r141x5) (seqS (regS P t0.fq r141x6) retS)))))
theorem S141ok : Sh P t0.fq T30 c141v S141 := by
  have e : c141v = (.seq (.region 0 o141x0 false) (.seq (.seq (.region 1 o141x1 true) (.seq (.region 2 o141x2 false) (.cond (.tmp 22) (.seq (.region 3 o141x3 false) .ret) .skip))) (.seq (.region 4 o141x4 false) (.seq (.region 5 o141x5 false) (.seq (.region 6 o141x6 false) .ret))))) := by kernel_rfl
  rw [e]
  exact (sh_seq (sh_reg r141x0ok) (sh_seq (sh_seq (sh_reg r141x1ok) (sh_seq (sh_reg r141x2ok) (sh_cond (fun x => by cases x; rfl) (sh_seq (sh_reg r141x3ok) sh_ret) sh_skip))) (sh_seq (sh_reg r141x4ok) (sh_seq (sh_reg r141x5ok) (sh_seq (sh_reg r141x6ok) sh_ret)))))
def A141 : List FV → Option X30 := fun l => match l with
  | [a, b, c] => some (X30.mk [] a b c .e .e .e .e .e .e .e .e .e .e .e .e .e .e .e .e .e .e .e .e .e .e .e .e .e .e .e)
  | _ => none
def L141 : LQ := shal P T30 S141 [.tmp 4] 4000 A141
def E141 : LA := evCall P t0.fa 4000 141
theorem G141 : Good P 141 L141 E141 := good_shal all0 (by kernel_rfl) (show FT P 141 = some (c141v, 30, [.tmp 4]) by kernel_rfl) S141ok (fun l x h => by
    unfold A141 at h
    split at h
    · cases h; exact ⟨by kernel_rfl, by kernel_rfl⟩
    · cases h) 4000
inductive X19 where
  | mk (m : List Nat) (a b c d f g h i l n o p r t u w y z A : FV)
def T19 (x : X19) : FF := X19.rec (motive := fun _ => FF) (fun m a b c d f g h i l n o p r t u w y z A => ⟨(.n a (.n b (.n g .e .e .e .e) (.n n .e .e .e .e) (.n t .e .e .e .e) (.n z .e .e .e .e)) (.n c (.n h .e .e .e .e) (.n o .e .e .e .e) (.n u .e .e .e .e) (.n A .e .e .e .e)) (.n d (.n i .e .e .e .e) (.n p .e .e .e .e) (.n w .e .e .e .e) .e) (.n f (.n l .e .e .e .e) (.n r .e .e .e .e) (.n y .e .e .e .e) .e)), 19, m⟩) x
def c147v : Code := bodyOf P 147
def o147x0 : Array Oper := regO (pth [0] c147v)
def r147x0 : RG X19 := fun call yl x s κ => X19.rec (motive := fun _ => MO X19) (fun m a b c d f g h i l n o p r t u w y z A s κ => ldV b false 1 s (fun v0 s => lenC v0 P 57 s (fun v1 s => binC v1 (.i .i64 1) 3 .sub P s (fun v2 s => κ (X19.mk m a b c v2 v0 v1 v2 i l n o p r t u w y z A) s)))) x s κ
theorem r147x0ok : RgOk P false o147x0 T19 r147x0 := fun _ _ x _ _ => by cases x; kernel_rfl
def o147x1 : Array Oper := regO (pth [1, 0, 0, 0, 0] c147v)
def r147x1 : RG X19 := fun call yl x s κ => X19.rec (motive := fun _ => MO X19) (fun m a b c d f g h i l n o p r t u w y z A s κ => binC d (.i .i64 0) 3 .geq P s (fun v0 s => κ (X19.mk m a b c d f g h d v0 n o p r t u w y z A) s)) x s κ
theorem r147x1ok : RgOk P false o147x1 T19 r147x1 := fun _ _ x _ _ => by cases x; kernel_rfl
def o147x2 : Array Oper := regO (pth [1, 0, 0, 1, 0, 0, 0] c147v)
def r147x2 : RG X19 := fun call yl x s κ => X19.rec (motive := fun _ => MO X19) (fun m a b c d f g h i l n o p r t u w y z A s κ => ldV b false 1 s (fun v0 s => natK d fun j => iaS v0 j 1 s (fun v1 s => ldV v1 false 1 s (fun v2 s => callV a [d, v2] call yl s (fun v3 s => notC v3 s (fun v4 s => κ (X19.mk m a b c d f g h i l n o a d v0 d v1 v2 v3 v4) s)))))) x s κ
theorem r147x2ok : RgOk P false o147x2 T19 r147x2 := fun _ _ x _ _ => by cases x; kernel_rfl
def o147x3 : Array Oper := regO (pth [1, 0, 0, 1, 1] c147v)
def r147x3 : RG X19 := fun call yl x s κ => X19.rec (motive := fun _ => MO X19) (fun m a b c d f g h i l n o p r t u w y z A s κ => binC d (.i .i64 1) 3 .sub P s (fun v0 s => κ (X19.mk m a b c v0 f g h i l d v0 p r t u w y z A) s)) x s κ
theorem r147x3ok : RgOk P false o147x3 T19 r147x3 := fun _ _ x _ _ => by cases x; kernel_rfl
def S147 : SF X19 := (seqS (regS P t0.fq r147x0) (blkS 0 (loopS (seqS (seqS (regS P t0.fq r147x1) (condS (fun x => X19.rec (motive := fun _ => FV) (fun _ _ _ _ _ _ _ _ _ z _ _ _ _ _ _ _ _ _ _ => z) x) skipS (exitS 0))) (seqS (blkS 1 (seqS (regS P t0.fq r147x2) (condS (fun x => X19.rec (motive := fun _ => FV) (fun _ _ _ _ _ _ _ _ _ _ _ _ _ _ _ _ _ _ _ z => z) x) retS skipS))) (regS P t0.fq r147x3))))))
theorem S147ok : Sh P t0.fq T19 c147v S147 := by
  have e : c147v = (.seq (.region 0 o147x0 false) (.block 0 (.loop (.seq (.seq (.region 1 o147x1 false) (.cond (.tmp 8) .skip (.exit 0))) (.seq (.block 1 (.seq (.region 3 o147x2 false) (.cond (.tmp 18) .ret .skip))) (.region 2 o147x3 false)))))) := by kernel_rfl
  rw [e]
  exact (sh_seq (sh_reg r147x0ok) (sh_blk 0 (sh_loop (sh_seq (sh_seq (sh_reg r147x1ok) (sh_cond (fun x => by cases x; rfl) sh_skip (sh_exit 0))) (sh_seq (sh_blk 1 (sh_seq (sh_reg r147x2ok) (sh_cond (fun x => by cases x; rfl) sh_ret sh_skip))) (sh_reg r147x3ok))))))
def A147 : List FV → Option X19 := fun l => match l with
  | [a, b] => some (X19.mk [] a b .e .e .e .e .e .e .e .e .e .e .e .e .e .e .e .e .e)
  | _ => none
def L147 : LQ := shal P T19 S147 [] 4000 A147
def E147 : LA := evCall P t0.fa 4000 147
theorem G147 : Good P 147 L147 E147 := good_shal all0 (by kernel_rfl) (show FT P 147 = some (c147v, 19, []) by kernel_rfl) S147ok (fun l x h => by
    unfold A147 at h
    split at h
    · cases h; exact ⟨by kernel_rfl, by kernel_rfl⟩
    · cases h) 4000
inductive X17 where
  | mk (m : List Nat) (a b c d f g h i l n o p r t u w y : FV)
def T17 (x : X17) : FF := X17.rec (motive := fun _ => FF) (fun m a b c d f g h i l n o p r t u w y => ⟨(.n a (.n b (.n g .e .e .e .e) (.n n .e .e .e .e) (.n t .e .e .e .e) .e) (.n c (.n h .e .e .e .e) (.n o .e .e .e .e) (.n u .e .e .e .e) .e) (.n d (.n i .e .e .e .e) (.n p .e .e .e .e) (.n w .e .e .e .e) .e) (.n f (.n l .e .e .e .e) (.n r .e .e .e .e) (.n y .e .e .e .e) .e)), 17, m⟩) x
def c91v : Code := bodyOf P 91
def o91x0 : Array Oper := regO (pth [] c91v)
def r91x0 : RG X17 := fun call yl x s κ => X17.rec (motive := fun _ => MO X17) (fun m a b c d f g h i l n o p r t u w y s κ => (fun qv0 => (fun qv1 => sandS (fun s κ1 => nilC a s (κ1)) s (fun qv2 v3 s => sandS (fun s κ1 => ptrK v3 1 s (κ1)) s (fun qv4 v5 s => sandS (fun s κ1 => ldV v5 false 1 s (κ1)) s (fun qv6 v7 s => (fun qv8 => sandS (fun s κ1 => nilC a s (κ1)) s (fun qv9 v10 s => sandS (fun s κ1 => ptrK v10 0 s (κ1)) s (fun qv11 v12 s => sandS (fun s κ1 => ldV v12 false 1 s (κ1)) s (fun qv13 v14 s => sandS (fun s κ1 => nilC v14 s (κ1)) s (fun qv15 v16 s => sandS (fun s κ1 => ptrK v16 30 s (κ1)) s (fun qv17 v18 s => sandS (fun s κ1 => sliceC P 51 v18 none none none s (κ1)) s (fun qv19 v20 s => sandS (fun s κ1 => appendC P 57 57 v7 v20 s (κ1)) s (fun qv21 v22 s => sandS (fun s κ1 => nilC a s (κ1)) s (fun qv23 v24 s => sandS (fun s κ1 => ptrK v24 1 s (κ1)) s (fun qv25 v26 s => sandS (fun s κ1 => stA v26 v22 1 s (κ1)) s (fun qv27 v28 s => V.iff (dynA [] [qv0, qv1, qv2, qv4, qv6, qv8, qv9, qv11, qv13, qv15, qv17, qv19, qv21, qv23, qv25, qv27] [[], [true], [true, false], [true, false, false], [true, false, false, false], [true, true, true, true, true], [true, true, true, true, true, false], [true, true, true, true, true, false, false], [true, true, true, true, true, false, false, false], [true, true, true, true, true, false, false, false, false], [true, true, true, true, true, false, false, false, false, false], [true, true, true, true, true, false, false, false, false, false, false], [true, false, false, false, false, false, false, false, false, false, false, false], [false, false, false, false, false, false, false, false, false, false, false, false, false], [false, false, false, false, false, false, false, false, false, false, false, false, false, false], [false, false, false, false, false, false, false, false, false, false, false, false, false, false, false]]) (κ (X17.mk m a b a a v3 v5 v7 a v10 v12 v14 v16 v18 v20 v22 v24 v26) s)))))))))))) (qz s))))) (qz s)) (qz s)) x s κ
theorem r91x0ok : RgOk P true o91x0 T17 r91x0 := fun _ _ x _ _ => by cases x; kernel_rfl
def S91 : SF X17 := (regS P t0.fq r91x0)
theorem S91ok : Sh P t0.fq T17 c91v S91 := by
  have e : c91v = (.region 0 o91x0 true) := by kernel_rfl
  rw [e]
  exact (sh_reg r91x0ok)
def A91 : List FV → Option X17 := fun l => match l with
  | [a] => some (X17.mk [] a .e .e .e .e .e .e .e .e .e .e .e .e .e .e .e .e)
  | _ => none
def L91 : LQ := shal P T17 S91 [] 4000 A91
def E91 : LA := evCall P t0.fa 4000 91
theorem G91 : Good P 91 L91 E91 := good_shal all0 (by kernel_rfl) (show FT P 91 = some (c91v, 17, []) by kernel_rfl) S91ok (fun l x h => by
    unfold A91 at h
    split at h
    · cases h; exact ⟨by kernel_rfl, by kernel_rfl⟩
    · cases h) 4000
inductive X15 where
  | mk (m : List Nat) (a b c d f g h i l n o p r t u : FV)
def T15 (x : X15) : FF := X15.rec (motive := fun _ => FF) (fun m a b c d f g h i l n o p r t u => ⟨(.n a (.n b (.n g .e .e .e .e) (.n n .e .e .e .e) (.n t .e .e .e .e) .e) (.n c (.n h .e .e .e .e) (.n o .e .e .e .e) (.n u .e .e .e .e) .e) (.n d (.n i .e .e .e .e) (.n p .e .e .e .e) .e .e) (.n f (.n l .e .e .e .e) (.n r .e .e .e .e) .e .e)), 15, m⟩) x
def c123v : Code := bodyOf P 123
def o123x0 : Array Oper := regO (pth [] c123v)
def r123x0 : RG X15 := fun call yl x s κ => X15.rec (motive := fun _ => MO X15) (fun m a b c d f g h i l n o p r t u s κ => (fun qv0 => sandS (fun s κ1 => nilC a s (κ1)) s (fun qv1 v2 s => sandS (fun s κ1 => ptrK v2 0 s (κ1)) s (fun qv3 v4 s => sandS (fun s κ1 => ldV v4 false 1 s (κ1)) s (fun qv5 v6 s => sandS (fun s κ1 => nilC v6 s (κ1)) s (fun qv7 v8 s => sandS (fun s κ1 => ptrK v8 30 s (κ1)) s (fun qv9 v10 s => sandS (fun s κ1 => sliceC P 51 v10 none none none s (κ1)) s (fun qv11 v12 s => (fun qv13 => sandS (fun s κ1 => nilC a s (κ1)) s (fun qv14 v15 s => sandS (fun s κ1 => ptrK v15 1 s (κ1)) s (fun qv16 v17 s => sandS (fun s κ1 => ldV v17 false 1 s (κ1)) s (fun qv18 v19 s => sandS (fun s κ1 => callV v19 [(.i .i64 32)] call yl s (κ1)) s (fun qv20 v21 s => sandS (fun s κ1 => copyC P 57 v12 v21 s (κ1)) s (fun qv22 v23 s => V.iff (dynA [] [qv0, qv1, qv3, qv5, qv7, qv9, qv11, qv13, qv14, qv16, qv18, qv20, qv22] [[], [false], [false, false], [false, false, false], [false, false, false, false], [false, false, false, false, false], [false, false, false, false, false, false], [true, true, true, true, true, true, true], [true, true, true, true, true, true, true, false], [true, true, true, true, true, true, true, false, false], [true, true, true, true, true, true, true, false, false, false], [true, true, true, true, true, true, true, false, false, false, false], [false, false, false, false, false, false, false, false, false, false, false, false]]) (κ (X15.mk m a b a v2 v4 v6 v8 v10 v12 a v15 v17 v19 v21 v23) s))))))) (qz s)))))))) (qz s)) x s κ
theorem r123x0ok : RgOk P true o123x0 T15 r123x0 := fun _ _ x _ _ => by cases x; kernel_rfl
def S123 : SF X15 := (regS P t0.fq r123x0)
theorem S123ok : Sh P t0.fq T15 c123v S123 := by
  have e : c123v = (.region 0 o123x0 true) := by kernel_rfl
  rw [e]
  exact (sh_reg r123x0ok)
def A123 : List FV → Option X15 := fun l => match l with
  | [a] => some (X15.mk [] a .e .e .e .e .e .e .e .e .e .e .e .e .e .e)
  | _ => none
def L123 : LQ := shal P T15 S123 [] 4000 A123
def E123 : LA := evCall P t0.fa 4000 123
theorem G123 : Good P 123 L123 E123 := good_shal all0 (by kernel_rfl) (show FT P 123 = some (c123v, 15, []) by kernel_rfl) S123ok (fun l x h => by
    unfold A123 at h
    split at h
    · cases h; exact ⟨by kernel_rfl, by kernel_rfl⟩
    · cases h) 4000
inductive X13 where
  | mk (m : List Nat) (a b c d f g h i l n o p r : FV)
def T13 (x : X13) : FF := X13.rec (motive := fun _ => FF) (fun m a b c d f g h i l n o p r => ⟨(.n a (.n b (.n g .e .e .e .e) (.n n .e .e .e .e) .e .e) (.n c (.n h .e .e .e .e) (.n o .e .e .e .e) .e .e) (.n d (.n i .e .e .e .e) (.n p .e .e .e .e) .e .e) (.n f (.n l .e .e .e .e) (.n r .e .e .e .e) .e .e)), 13, m⟩) x
def c142v : Code := bodyOf P 142
def o142x0 : Array Oper := regO (pth [0] c142v)
def r142x0 : RG X13 := fun call yl x s κ => X13.rec (motive := fun _ => MO X13) (fun m a b c d f g h i l n o p r s κ => κ (X13.mk m a b (.b false) d f g h i l n o p r) s) x s κ
theorem r142x0ok : RgOk P false o142x0 T13 r142x0 := fun _ _ x _ _ => by cases x; kernel_rfl
def o142x1 : Array Oper := regO (pth [1, 0] c142v)
def r142x1 : RG X13 := fun call yl x s κ => X13.rec (motive := fun _ => MO X13) (fun m a b c d f g h i l n o p r s κ => ldV a false 1 s (fun v0 s => nilC v0 s (fun v1 s => ptrK v1 2 s (fun v2 s => ldV v2 false 1 s (fun v3 s => notC v3 s (fun v4 s => bnk (fun κ1 => wantC v4 true (ldV b false 1 s (κ1)) (κ1 .e s)) (fun v5 s => bnk (fun κ1 => wantC v4 true (lenC v5 P 57 s (κ1)) (κ1 .e s)) (fun v6 s => bnk (fun κ1 => wantC v4 true (binC v6 (.i .i64 0) 3 .eql P s (κ1)) (κ1 .e s)) (fun v7 s => bnk (fun κ0 => condB v4 (κ0 v7 s) (κ0 (.b false) s)) (fun v8 s => κ (X13.mk m a b v8 v0 v1 v2 v3 v4 v4 v5 v6 v7 v8) s)))))))))) x s κ
theorem r142x1ok : RgOk P false o142x1 T13 r142x1 := fun _ _ x _ _ => by cases x; kernel_rfl
def S142 : SF X13 := (seqS (regS P t0.fq r142x0) (seqS (regS P t0.fq r142x1) retS))
theorem S142ok : Sh P t0.fq T13 c142v S142 := by
  have e : c142v = (.seq (.region 0 o142x0 false) (.seq (.region 1 o142x1 false) .ret)) := by kernel_rfl
  rw [e]
  exact (sh_seq (sh_reg r142x0ok) (sh_seq (sh_reg r142x1ok) sh_ret))
def A142 : List FV → Option X13 := fun l => match l with
  | [a, b] => some (X13.mk [] a b .e .e .e .e .e .e .e .e .e .e .e)
  | _ => none
def L142 : LQ := shal P T13 S142 [.tmp 2] 4000 A142
def E142 : LA := evCall P t0.fa 4000 142
theorem G142 : Good P 142 L142 E142 := good_shal all0 (by kernel_rfl) (show FT P 142 = some (c142v, 13, [.tmp 2]) by kernel_rfl) S142ok (fun l x h => by
    unfold A142 at h
    split at h
    · cases h; exact ⟨by kernel_rfl, by kernel_rfl⟩
    · cases h) 4000
def t1 : LT := (.n 123 L123 E123 (.n 86 L86 E86 (.n 73 L73 E73 (.n 42 L42 E42 .e .e) .e) (.n 91 L91 E91 .e .e)) (.n 142 L142 E142 (.n 141 L141 E141 .e .e) (.n 147 L147 E147 .e .e)))
theorem all1 : t1.all (Good P) := ⟨G123, ⟨G86, ⟨G73, ⟨G42, trivial, trivial⟩, trivial⟩, ⟨G91, trivial, trivial⟩⟩, ⟨G142, ⟨G141, trivial, trivial⟩, ⟨G147, trivial, trivial⟩⟩⟩
end
end V
end Go.CE
namespace Go.CE
namespace V
set_option maxRecDepth 100000
noncomputable section
variable [Sym] [SymOk]
inductive X4 where
  | mk (m : List Nat) (a b c d : FV)
def T4 (x : X4) : FF := X4.rec (motive := fun _ => FF) (fun m a b c d => ⟨(.n a (.n b .e .e .e .e) (.n c .e .e .e .e) (.n d .e .e .e .e) .e), 4, m⟩) x
def c143v : Code := bodyOf P 143
def o143x0 : Array Oper := regO (pth [0] c143v)
def r143x0 : RG X4 := fun call yl x s κ => X4.rec (motive := fun _ => MO X4) (fun m a b c d s κ => bxV a 57 s (fun v0 s => κ (X4.mk m a v0 (.o .nf) d) s)) x s κ
theorem r143x0ok : RgOk P false o143x0 T4 r143x0 := fun _ _ x _ _ => by cases x; kernel_rfl
def o143x1 : Array Oper := regO (pth [1, 0] c143v)
def r143x1 : RG X4 := fun call yl x s κ => X4.rec (motive := fun _ => MO X4) (fun m a b c d s κ => makeFuncC 147 [] [b] s (fun v0 s => κ (X4.mk m a b v0 v0) s)) x s κ
theorem r143x1ok : RgOk P false o143x1 T4 r143x1 := fun _ _ x _ _ => by cases x; kernel_rfl
def S143 : SF X4 := (seqS (regS P t1.fq r143x0) (seqS (regS P t1.fq r143x1) retS))
theorem S143ok : Sh P t1.fq T4 c143v S143 := by
  have e : c143v = (.seq (.region 0 o143x0 false) (.seq (.region 1 o143x1 false) .ret)) := by kernel_rfl
  rw [e]
  exact (sh_seq (sh_reg r143x0ok) (sh_seq (sh_reg r143x1ok) sh_ret))
def A143 : List FV → Option X4 := fun l => match l with
  | [a] => some (X4.mk [] a .e .e .e)
  | _ => none
def L143 : LQ := shal P T4 S143 [.tmp 2] 4000 A143
def E143 : LA := evCall P t1.fa 4000 143
theorem G143 : Good P 143 L143 E143 := good_shal all1 (by kernel_rfl) (show FT P 143 = some (c143v, 4, [.tmp 2]) by kernel_rfl) S143ok (fun l x h => by
    unfold A143 at h
    split at h
    · cases h; exact ⟨by kernel_rfl, by kernel_rfl⟩
    · cases h) 4000
inductive X16 where
  | mk (m : List Nat) (a b c d f g h i l n o p r t u w : FV)
def T16 (x : X16) : FF := X16.rec (motive := fun _ => FF) (fun m a b c d f g h i l n o p r t u w => ⟨(.n a (.n b (.n g .e .e .e .e) (.n n .e .e .e .e) (.n t .e .e .e .e) .e) (.n c (.n h .e .e .e .e) (.n o .e .e .e .e) (.n u .e .e .e .e) .e) (.n d (.n i .e .e .e .e) (.n p .e .e .e .e) (.n w .e .e .e .e) .e) (.n f (.n l .e .e .e .e) (.n r .e .e .e .e) .e .e)), 16, m⟩) x
def c117v : Code := bodyOf P 117
def o117x0 : Array Oper := regO (pth [0] c117v)
def r117x0 : RG X16 := fun call yl x s κ => X16.rec (motive := fun _ => MO X16) (fun m a b c d f g h i l n o p r t u w s κ => bxV b 57 s (fun v0 s => κ (X16.mk m a b c v0 (.o (.p none)) (.o .nf) h i l n o p r t u w) s)) x s κ
theorem r117x0ok : RgOk P false o117x0 T16 r117x0 := fun _ _ x _ _ => by cases x; kernel_rfl
def o117x1 : Array Oper := regO (pth [1, 0] c117v)
def r117x1 : RG X16 := fun call yl x s κ => X16.rec (motive := fun _ => MO X16) (fun m a b c d f g h i l n o p r t u w s κ => buildC P 219 [(0, a)] s (fun v0 s => bxV v0 219 s (fun v1 s => allocC P 194 s (fun v2 s => stA v2 v1 1 s (fun _ s => κ (X16.mk m a b c d f g v2 a v0 v1 o p r t u w) s))))) x s κ
theorem r117x1ok : RgOk P false o117x1 T16 r117x1 := fun _ _ x _ _ => by cases x; kernel_rfl
def o117x2 : Array Oper := regO (pth [1, 1, 0] c117v)
def r117x2 : RG X16 := fun call yl x s κ => X16.rec (motive := fun _ => MO X16) (fun m a b c d f g h i l n o p r t u w s κ => ldV h false 1 s (fun v0 s => makeFuncC 141 [] [h, d] s (fun v1 s => nilC v0 s (fun v2 s => ptrK v2 1 s (fun v3 s => stA v3 v1 1 s (fun _ s => κ (X16.mk m a b c d f g h i l n v0 v1 v2 v3 u w) s)))))) x s κ
theorem r117x2ok : RgOk P false o117x2 T16 r117x2 := fun _ _ x _ _ => by cases x; kernel_rfl
def o117x3 : Array Oper := regO (pth [1, 1, 1, 0] c117v)
def r117x3 : RG X16 := fun call yl x s κ => X16.rec (motive := fun _ => MO X16) (fun m a b c d f g h i l n o p r t u w s κ => ldV h false 1 s (fun v0 s => makeFuncC 142 [] [h, d] s (fun v1 s => κ (X16.mk m a b c d v0 v1 h i l n o p r t v0 v1) s))) x s κ
theorem r117x3ok : RgOk P false o117x3 T16 r117x3 := fun _ _ x _ _ => by cases x; kernel_rfl
def S117 : SF X16 := (seqS (regS P t1.fq r117x0) (seqS (regS P t1.fq r117x1) (seqS (regS P t1.fq r117x2) (seqS (regS P t1.fq r117x3) retS))))
theorem S117ok : Sh P t1.fq T16 c117v S117 := by
  have e : c117v = (.seq (.region 0 o117x0 false) (.seq (.region 1 o117x1 false) (.seq (.region 2 o117x2 false) (.seq (.region 3 o117x3 false) .ret)))) := by kernel_rfl
  rw [e]
  exact (sh_seq (sh_reg r117x0ok) (sh_seq (sh_reg r117x1ok) (sh_seq (sh_reg r117x2ok) (sh_seq (sh_reg r117x3ok) sh_ret))))
def A117 : List FV → Option X16 := fun l => match l with
  | [a, b] => some (X16.mk [] a b .e .e .e .e .e .e .e .e .e .e .e .e .e .e)
  | _ => none
def L117 : LQ := shal P T16 S117 [.tmp 4, .tmp 5] 4000 A117
def E117 : LA := evCall P t1.fa 4000 117
theorem G117 : Good P 117 L117 E117 := good_shal all1 (by kernel_rfl) (show FT P 117 = some (c117v, 16, [.tmp 4, .tmp 5]) by kernel_rfl) S117ok (fun l x h => by
    unfold A117 at h
    split at h
    · cases h; exact ⟨by kernel_rfl, by kernel_rfl⟩
    · cases h) 4000
def t2 : LT := (.n 123 L123 E123 (.n 86 L86 E86 (.n 73 L73 E73 (.n 42 L42 E42 .e .e) .e) (.n 117 L117 E117 (.n 91 L91 E91 .e .e) .e)) (.n 143 L143 E143 (.n 142 L142 E142 (.n 141 L141 E141 .e .e) .e) (.n 147 L147 E147 .e .e)))
theorem all2 : t2.all (Good P) := ⟨G123, ⟨G86, ⟨G73, ⟨G42, trivial, trivial⟩, trivial⟩, ⟨G117, ⟨G91, trivial, trivial⟩, trivial⟩⟩, ⟨G143, ⟨G142, ⟨G141, trivial, trivial⟩, trivial⟩, ⟨G147, trivial, trivial⟩⟩⟩
end
end V
end Go.CE
namespace Go.CE
namespace V
set_option maxRecDepth 100000
noncomputable section
variable [Sym] [SymOk]
def c118v : Code := bodyOf P 118
def o118x0 : Array Oper := regO (pth [0] c118v)
def r118x0 : RG X23 := fun call yl x s κ => X23.rec (motive := fun _ => MO X23) (fun m a b c d f g h i l n o p r t u w y z A B C D E s κ => κ (X23.mk m a b c d (.i .i64 0) g h i l n o p r t u w y z A B C D E) s) x s κ
theorem r118x0ok : RgOk P false o118x0 T23 r118x0 := fun _ _ x _ _ => by cases x; kernel_rfl
def o118x1 : Array Oper := regO (pth [1, 0] c118v)
def r118x1 : RG X23 := fun call yl x s κ => X23.rec (motive := fun _ => MO X23) (fun m a b c d f g h i l n o p r t u w y z A B C D E s κ => allocC P 3 s (fun v0 s => stA v0 (.i .i64 0) 1 s (fun _ s => κ (X23.mk m a b c d f v0 h i l n o p r t u w y z A B C D E) s))) x s κ
theorem r118x1ok : RgOk P false o118x1 T23 r118x1 := fun _ _ x _ _ => by cases x; kernel_rfl
def o118x2 : Array Oper := regO (pth [1, 1, 0, 0] c118v)
def r118x2 : RG X23 := fun call yl x s κ => X23.rec (motive := fun _ => MO X23) (fun m a b c d f g h i l n o p r t u w y z A B C D E s κ => nilC a s (fun v0 s => ptrK v0 1 s (fun v1 s => ldV v1 false 1 s (fun v2 s => callV v2 [b] call yl s (fun v3 s => call 143 [v3] s (fun v4 s => κ (X23.mk m a b c d f g h i a v0 v1 v2 b v3 v4 w y z A B C D E) s)))))) x s κ
theorem r118x2ok : RgOk P false o118x2 T23 r118x2 := fun _ _ x _ _ => by cases x; kernel_rfl
def g118x3 : Code × Code := rngO (pth [1, 1, 0, 1, 0] c118v)
def o118x4 : Array Oper := regO (pth [1, 1, 1, 0] c118v)
def r118x4 : RG X23 := fun call yl x s κ => X23.rec (motive := fun _ => MO X23) (fun m a b c d f g h i l n o p r t u w y z A B C D E s κ => ldV g false 1 s (fun v0 s => κ (X23.mk m a b c d v0 g h i l n o p r t u w y z A B C D v0) s)) x s κ
theorem r118x4ok : RgOk P false o118x4 T23 r118x4 := fun _ _ x _ _ => by cases x; kernel_rfl
def S118 : SF X23 := (seqS (regS P t2.fq r118x0) (seqS (regS P t2.fq r118x1) (seqS (seqS (regS P t2.fq r118x2) (blkS 0 (rngS P t2.fq T23 (fun δ x => X23.rec (motive := fun _ => X23) (fun m a b c d f g h i l n o p r t u w y z A B C D E => X23.mk (δ :: m) a b c d f g h i l n o p r t u w y z A B C D E) x) (fun x => X23.rec (motive := fun _ => FV) (fun _ _ _ _ _ _ _ _ _ _ _ _ _ _ _ z _ _ _ _ _ _ _ _ => z) x) [15, 16] g118x3.1 g118x3.2))) (seqS (regS P t2.fq r118x4) retS))))
theorem S118ok : Sh P t2.fq T23 c118v S118 := by
  have e : c118v = (.seq (.region 0 o118x0 false) (.seq (.region 1 o118x1 false) (.seq (.seq (.region 2 o118x2 false) (.block 0 (.rangeFunc (.tmp 14) #[15, 16] g118x3.1 g118x3.2))) (.seq (.region 5 o118x4 false) .ret)))) := by kernel_rfl
  rw [e]
  exact (sh_seq (sh_reg r118x0ok) (sh_seq (sh_reg r118x1ok) (sh_seq (sh_seq (sh_reg r118x2ok) (sh_blk 0 (sh_rng (mk := (fun δ x => X23.rec (motive := fun _ => X23) (fun m a b c d f g h i l n o p r t u w y z A B C D E => X23.mk (δ :: m) a b c d f g h i l n o p r t u w y z A B C D E) x)) (get := (fun x => X23.rec (motive := fun _ => FV) (fun _ _ _ _ _ _ _ _ _ _ _ _ _ _ _ z _ _ _ _ _ _ _ _ => z) x)) (fun x => by cases x; rfl) (fun d x => by cases x; rfl)))) (sh_seq (sh_reg r118x4ok) sh_ret))))
def A118 : List FV → Option X23 := fun l => match l with
  | [a, b] => some (X23.mk [] a b .e .e .e .e .e .e .e .e .e .e .e .e .e .e .e .e .e .e .e .e .e)
  | _ => none
def L118 : LQ := shal P T23 S118 [.tmp 4] 4000 A118
def E118 : LA := evCall P t2.fa 4000 118
theorem G118 : Good P 118 L118 E118 := good_shal all2 (by kernel_rfl) (show FT P 118 = some (c118v, 23, [.tmp 4]) by kernel_rfl) S118ok (fun l x h => by
    unfold A118 at h
    split at h
    · cases h; exact ⟨by kernel_rfl, by kernel_rfl⟩
    · cases h) 4000
def t3 : LT := (.n 118 L118 E118 (.n 86 L86 E86 (.n 73 L73 E73 (.n 42 L42 E42 .e .e) .e) (.n 117 L117 E117 (.n 91 L91 E91 .e .e) .e)) (.n 142 L142 E142 (.n 141 L141 E141 (.n 123 L123 E123 .e .e) .e) (.n 147 L147 E147 (.n 143 L143 E143 .e .e) .e)))
theorem all3 : t3.all (Good P) := ⟨G118, ⟨G86, ⟨G73, ⟨G42, trivial, trivial⟩, trivial⟩, ⟨G117, ⟨G91, trivial, trivial⟩, trivial⟩⟩, ⟨G142, ⟨G141, ⟨G123, trivial, trivial⟩, trivial⟩, ⟨G147, ⟨G143, trivial, trivial⟩, trivial⟩⟩⟩
end
end V
end Go.CE
namespace Go.CE
namespace V
variable [Sym] [SymOk]
noncomputable def tL : LT := t3
theorem allL : tL.all (Good P) := all3
end V
end Go.CE
