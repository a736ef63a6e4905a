/-
  The first tree of laws: the digests', the letters', the keys'.
-/
import Derived.Test.YtlnlbdfokmhelaaGreatDoorPkTab
import Derived.Test.YtlnlbdfokmhelaaGreatDoorPkKs
set_option linter.unusedSectionVars false
set_option linter.constructorNameAsVariable false
set_option linter.unusedVariables false
set_option linter.unusedSimpArgs false
namespace Go.CE
namespace V
namespace Q
variable [Sym] [a0n]
noncomputable def L26:LQ:=aq2
noncomputable def E26:LA:=aen
theorem G26:Good P 26 L26 E26:=aos
noncomputable def L34:LQ:=aGo
noncomputable def E34:LA:=ap0
theorem G34:Good P 34 L34 E34:=az3
noncomputable def aYt:LQ:=asc
noncomputable def aZ0:LA:=ag8
theorem b0k:Good P 128 aYt aZ0:=aox
noncomputable def aYs:LQ:=asy a5l
noncomputable def aYz:LA:=aik a5l
theorem b0j:Good P 155 aYs aYz:=ach
noncomputable def aYr:LQ:=aZ2 a5l
noncomputable def aYy:LA:=aNe a5l
theorem b0i:Good P 172 aYr aYy:=aA5
noncomputable def aYq:LQ:=aH1 a5l
noncomputable def aYx:LA:=ap8 a5l
theorem b0h:Good P 173 aYq aYx:=azk
noncomputable def aYp:LQ:=aGq ahx
noncomputable def aYw:LA:=ap2 ahx
theorem b0g:Good P 180 aYp aYw:=aA6
noncomputable def aYo:LQ:=aDa
noncomputable def aYv:LA:=aoc
theorem b0f:Good P 193 aYo aYv:=au4
noncomputable def aYn:LQ:=aZe
noncomputable def aYu:LA:=aPk
theorem b0e:Good P 211 aYn aYu:=aG2
noncomputable def t0:LT:=(.n 172 aYr aYy (.n 128 aYt aZ0 (.n 34 L34 E34 (.n 26 L26 E26 .e .e) .e) (.n 155 aYs aYz .e .e)) (.n 193 aYo aYv (.n 180 aYp aYw (.n 173 aYq aYx .e .e) .e) (.n 211 aYn aYu .e .e)))
theorem aI5:t0.all (Good P):=⟨b0i,⟨b0k,⟨G34,⟨G26,trivial,trivial⟩,trivial⟩,⟨b0j,trivial,trivial⟩⟩,⟨b0f,⟨b0g,⟨b0h,trivial,trivial⟩,trivial⟩,⟨b0e,trivial,trivial⟩⟩⟩
end Q
end V
end Go.CE
namespace Go.CE
namespace V
namespace Q
set_option maxRecDepth 100000
noncomputable section
variable [Sym] [a0n]
inductive X35 where
 | mk (m:List Nat) (a b c d f g h i l n o p r t u w y z A B C D E F G H I J K L M N O Q R:FV)
def T35 (x:X35):FF:=X35.rec (motive:=fun _=>FF) (fun m a b c d f g h i l n o p r t u w y z A B C D E F G H I J K L M N O Q R=>⟨(.n a (.n b (.n g (.n D .e .e .e .e) .e .e .e) (.n n (.n H .e .e .e .e) .e .e .e) (.n t (.n L .e .e .e .e) .e .e .e) (.n z (.n Q .e .e .e .e) .e .e .e)) (.n c (.n h (.n E .e .e .e .e) .e .e .e) (.n o (.n I .e .e .e .e) .e .e .e) (.n u (.n M .e .e .e .e) .e .e .e) (.n A (.n R .e .e .e .e) .e .e .e)) (.n d (.n i (.n F .e .e .e .e) .e .e .e) (.n p (.n J .e .e .e .e) .e .e .e) (.n w (.n N .e .e .e .e) .e .e .e) (.n B .e .e .e .e)) (.n f (.n l (.n G .e .e .e .e) .e .e .e) (.n r (.n K .e .e .e .e) .e .e .e) (.n y (.n O .e .e .e .e) .e .e .e) (.n C .e .e .e .e))),35,m⟩) x
def auz:Code:=a8w P 86
def aW3:Array Oper:=a3o (pth [0] auz)
def aUo:RG X35:=fun call yl x s κ=>X35.rec (motive:=fun _=>MO X35) (fun m a b c d f g h i l n o p r t u w y z A B C D E F G H I J K L M N O Q R s κ=>bxV b 78 s (fun v0 s=>an6 P 48 s (fun v1 s=>κ (X35.mk m a b c v0 v1 (.i .i64 0) h i l n o p r t u w y z A B C D E F G H I J K L M N O Q R) s))) x s κ
theorem aOy:RgOk P false aW3 T35 aUo:=fun _ _ x _ _=>by cases x;kernel_rfl
def aW2:Array Oper:=a3o (pth [1,0] auz)
def aUn:RG X35:=fun call yl x s κ=>X35.rec (motive:=fun _=>MO X35) (fun m a b c d f g h i l n o p r t u w y z A B C D E F G H I J K L M N O Q R s κ=>ldV d true 36 s (fun v0 s=>an1 P 205 [(0,a),(1,v0)] s (fun v1 s=>bxV v1 205 s (fun v2 s=>κ (X35.mk m a b c d f g v2 i l n a v0 v1 v2 u w y z A B C D E F G H I J K L M N O Q R) s)))) x s κ
theorem aOx:RgOk P false aW2 T35 aUn:=fun _ _ x _ _=>by cases x;kernel_rfl
def aW1:Array Oper:=a3o (pth [1,1,0,0] auz)
def aUm:RG X35:=fun call yl x s κ=>X35.rec (motive:=fun _=>MO X35) (fun m a b c d f g h i l n o p r t u w y z A B C D E F G H I J K L M N O Q R s κ=>abt 148 [h] [] s (fun v0 s=>abt 149 [h] [] s (fun v1 s=>abt 150 [h] [] s (fun v2 s=>an1 P 207 [(0,v0),(1,v1),(2,v2)] s (fun v3 s=>κ (X35.mk m a b c d f g h i l n o p r t h v0 h v1 h v2 v3 (.i .i64 0) E F G H I J K L M N O Q R) s))))) x s κ
theorem aOw:RgOk P false aW1 T35 aUm:=fun _ _ x _ _=>by cases x;kernel_rfl
def aW0:Array Oper:=a3o (pth [1,1,0,1,0,0,0] auz)
def aUl:RG X35:=fun call yl x s κ=>X35.rec (motive:=fun _=>MO X35) (fun m a b c d f g h i l n o p r t u w y z A B C D E F G H I J K L M N O Q R s κ=>ab5 D (.i .i64 3) 3 .lss P s (fun v0 s=>κ (X35.mk m a b c d f g h i l n o p r t u w y z A B C D v0 F G H I J K L M N O Q R) s)) x s κ
theorem aOv:RgOk P false aW0 T35 aUl:=fun _ _ x _ _=>by cases x;kernel_rfl
def aVz:Array Oper:=a3o (pth [1,1,0,1,0,0,1,1,0,0,0] auz)
def aUk:RG X35:=fun call yl x s κ=>X35.rec (motive:=fun _=>MO X35) (fun m a b c d f g h i l n o p r t u w y z A B C D E F G H I J K L M N O Q R s κ=>alr D fun j=>V.iff (Nat.ble (Nat.succ j) 3) (prV C false (Nat.mul j 1) 1 s (fun v0 s=>κ (X35.mk m a b c d f g h i v0 n o p r t u w y z A B C D E v0 G H I J K L M N O Q R) s))) x s κ
theorem aOu:RgOk P false aVz T35 aUk:=fun _ _ x _ _=>by cases x;kernel_rfl
def aVy:Array Oper:=a3o (pth [1,1,0,1,0,0,1,1,0,0,1,0] auz)
def aUj:RG X35:=fun call yl x s κ=>X35.rec (motive:=fun _=>MO X35) (fun m a b c d f g h i l n o p r t u w y z A B C D E F G H I J K L M N O Q R s κ=>aAo l [] call yl s (fun v0 s=>κ (X35.mk m a b c d f g h i l v0 o p r t u w y z A B C D E F l v0 I J K L M N O Q R) s)) x s κ
theorem aOt:RgOk P false aVy T35 aUj:=fun _ _ x _ _=>by cases x;kernel_rfl
def aVx:Array Oper:=a3o (pth [1,1,0,1,0,0,1,1,0,0,1,1,0] auz)
def aUi:RG X35:=fun call yl x s κ=>X35.rec (motive:=fun _=>MO X35) (fun m a b c d f g h i l n o p r t u w y z A B C D E F G H I J K L M N O Q R s κ=>ab5 n (.i .i64 0) 31 .neq P s (fun v0 s=>κ (X35.mk m a b c d f g h i l n o p r t u w y z A B C D E F G H n v0 K L M N O Q R) s)) x s κ
theorem aOs:RgOk P false aVx T35 aUi:=fun _ _ x _ _=>by cases x;kernel_rfl
def aVw:Array Oper:=a3o (pth [1,1,0,1,0,0,1,1,0,0,1,1,1,0,0] auz)
def aUh:RG X35:=fun call yl x s κ=>X35.rec (motive:=fun _=>MO X35) (fun m a b c d f g h i l n o p r t u w y z A B C D E F G H I J K L M N O Q R s κ=>an1 P 48 [] s (fun v0 s=>stA f v0 62 s (fun _ s=>κ (X35.mk m a b c d f n h i l n o p r t u w y z A B C D E F G H I J v0 n M N O Q R) s))) x s κ
theorem aOr:RgOk P false aVw T35 aUh:=fun _ _ x _ _=>by cases x;kernel_rfl
def aVv:Array Oper:=a3o (pth [1,1,0,1,0,0,1,1,1] auz)
def aUg:RG X35:=fun call yl x s κ=>X35.rec (motive:=fun _=>MO X35) (fun m a b c d f g h i l n o p r t u w y z A B C D E F G H I J K L M N O Q R s κ=>ab5 D (.i .i64 1) 3 .add P s (fun v0 s=>κ (X35.mk m a b c d f g h i l n o p r t u w y z A B C v0 E F G H I J K L v0 N O Q R) s)) x s κ
theorem aOq:RgOk P false aVv T35 aUg:=fun _ _ x _ _=>by cases x;kernel_rfl
def aVu:Array Oper:=a3o (pth [1,1,1,0] auz)
def aUf:RG X35:=fun call yl x s κ=>X35.rec (motive:=fun _=>MO X35) (fun m a b c d f g h i l n o p r t u w y z A B C D E F G H I J K L M N O Q R s κ=>aPm h s (fun v0 s=>abl v0 37 s (fun v1 s=>ldV v1 true 62 s (fun v2 s=>stA f v2 62 s (fun _ s=>κ (X35.mk m a b c d f (.i .i64 0) h i l n o p r t u w y z A B C D E F G H I J K L M h v0 v1 v2) s))))) x s κ
theorem aOp:RgOk P false aVu T35 aUf:=fun _ _ x _ _=>by cases x;kernel_rfl
def S86:SF X35:=(a2p (a3l P t0.fq aUo) (a2p (a3l P t0.fq aUn) (a2p (a2p (a3l P t0.fq aUm) (adw 0 (ajf (a2p (a3l P t0.fq aUl) (a2p (ac0 (fun x=>X35.rec (motive:=fun _=>FV) (fun _ _ _ _ _ _ _ _ _ _ _ _ _ _ _ _ _ _ _ _ _ _ _ z _ _ _ _ _ _ _ _ _ _ _ _=>z) x) abf (amm 0)) (a2p (adw 1 (a2p (a3l P t0.fq aUk) (a2p (a3l P t0.fq aUj) (a2p (a3l P t0.fq aUi) (ac0 (fun x=>X35.rec (motive:=fun _=>FV) (fun _ _ _ _ _ _ _ _ _ _ _ _ _ _ _ _ _ _ _ _ _ _ _ _ _ _ _ _ z _ _ _ _ _ _ _=>z) x) (a2p (a3l P t0.fq aUh) akb) abf))))) (a3l P t0.fq aUg))))))) (a2p (a3l P t0.fq aUf) akb))))
theorem b52:Sh P t0.fq T35 auz S86:=by
 have e:auz=(.seq (.region 0 aW3 false) (.seq (.region 1 aW2 false) (.seq (.seq (.region 2 aW1 false) (.block 0 (.loop (.seq (.region 3 aW0 false) (.seq (.cond (.tmp 22) .skip (.exit 0)) (.seq (.block 1 (.seq (.region 4 aVz false) (.seq (.region 5 aVy false) (.seq (.region 6 aVx false) (.cond (.tmp 27) (.seq (.region 7 aVw false) .ret) .skip))))) (.region 8 aVv false))))))) (.seq (.region 9 aVu false) .ret)))):=by kernel_rfl
 rw [e]
 exact (a0a (a0g aOy) (a0a (a0g aOx) (a0a (a0a (a0g aOw) (a7f 0 (aan (a0a (a0g aOv) (a0a (a5q (fun x=>by cases x;rfl) a5p (aao 0)) (a0a (a7f 1 (a0a (a0g aOu) (a0a (a0g aOt) (a0a (a0g aOs) (a5q (fun x=>by cases x;rfl) (a0a (a0g aOr) a5x) a5p))))) (a0g aOq))))))) (a0a (a0g aOp) a5x))))
def A86:List FV→Option X35:=fun l=>match l with
 | [a,b]=>some (X35.mk [] a b .e .e .e .e .e .e .e .e .e .e .e .e .e .e .e .e .e .e .e .e .e .e .e .e .e .e .e .e .e .e .e .e .e)
 | _=>none
def L86:LQ:=aqc P T35 S86 [.cell 4 48,.tmp 5] 4000 A86
def E86:LA:=a5c P t0.fa 4000 86
theorem G86:Good P 86 L86 E86:=a3i aI5 (by kernel_rfl) (show FT P 86=some (auz,35,[.cell 4 48,.tmp 5]) by kernel_rfl) b52 (fun l x h=>by
  unfold A86 at h
  split at h
  ·cases h;exact ⟨by kernel_rfl,by kernel_rfl⟩
  ·cases h) 4000
def t1:LT:=(.n 172 aYr aYy (.n 86 L86 E86 (.n 34 L34 E34 (.n 26 L26 E26 .e .e) .e) (.n 155 aYs aYz (.n 128 aYt aZ0 .e .e) .e)) (.n 193 aYo aYv (.n 180 aYp aYw (.n 173 aYq aYx .e .e) .e) (.n 211 aYn aYu .e .e)))
theorem all1:t1.all (Good P):=⟨b0i,⟨G86,⟨G34,⟨G26,trivial,trivial⟩,trivial⟩,⟨b0j,⟨b0k,trivial,trivial⟩,trivial⟩⟩,⟨b0f,⟨b0g,⟨b0h,trivial,trivial⟩,trivial⟩,⟨b0e,trivial,trivial⟩⟩⟩
end
end Q
end V
end Go.CE
namespace Go.CE
namespace V
namespace Q
variable [Sym] [a0n]
noncomputable def tL:LT:=t1
theorem allL:tL.all (Good P):=all1
end Q
end V
end Go.CE
