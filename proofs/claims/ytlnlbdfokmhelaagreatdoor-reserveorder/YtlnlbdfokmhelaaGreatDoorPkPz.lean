/-
  The first tree of laws: the digests', the letters', the keys'.
-/
import Derived.Test.YtlnlbdfokmhelaaGreatDoorPkTab
import Derived.Test.YtlnlbdfokmhelaaGreatDoorPkKs
set_option linter.unusedSectionVars false
set_option linter.constructorNameAsVariable false
set_option linter.unusedVariables false
set_option linter.unusedSimpArgs false
namespace Go.CE
namespace V
namespace Q
variable [Sym] [avd]
noncomputable def L26:LQ:=bvn
noncomputable def E26:LA:=bjk
theorem G26:Good P 26 L26 E26:=bub
noncomputable def L34:LQ:=bM6
noncomputable def E34:LA:=buk
theorem G34:Good P 34 L34 E34:=bEd
noncomputable def c4v:LQ:=bxv
noncomputable def c54:LA:=bl6
theorem c6l:Good P 128 c4v c54:=buh
noncomputable def c4u:LQ:=bye bay
noncomputable def c52:LA:=bni bay
theorem c6k:Good P 155 c4u c52:=bhi
noncomputable def c4t:LQ:=c56 bay
noncomputable def c50:LA:=bSv bay
theorem c6j:Good P 172 c4t c50:=bFv
noncomputable def c4s:LQ:=bMk bay
noncomputable def c4z:LA:=buw bay
theorem c6i:Good P 173 c4s c4z:=bEw
noncomputable def c4r:LQ:=bM8 bmu
noncomputable def c4y:LA:=bum bmu
theorem c6h:Good P 180 c4r c4y:=bFw
noncomputable def c4q:LQ:=bIs
noncomputable def c4x:LA:=btv
theorem c6g:Good P 193 c4q c4x:=bz6
noncomputable def c4p:LQ:=c5k
noncomputable def c4w:LA:=bUy
theorem c6f:Good P 211 c4p c4w:=bLl
noncomputable def t0:LT:=(.n 172 c4t c50 (.n 128 c4v c54 (.n 34 L34 E34 (.n 26 L26 E26 .e .e) .e) (.n 155 c4u c52 .e .e)) (.n 193 c4q c4x (.n 180 c4r c4y (.n 173 c4s c4z .e .e) .e) (.n 211 c4p c4w .e .e)))
theorem bNh:t0.all (Good P):=⟨c6j,⟨c6l,⟨G34,⟨G26,trivial,trivial⟩,trivial⟩,⟨c6k,trivial,trivial⟩⟩,⟨c6g,⟨c6h,⟨c6i,trivial,trivial⟩,trivial⟩,⟨c6f,trivial,trivial⟩⟩⟩
end Q
end V
end Go.CE
namespace Go.CE
namespace V
namespace Q
set_option maxRecDepth 100000
noncomputable section
variable [Sym] [avd]
inductive X8 where
 | mk (m:List Nat) (a b c d f g h i:FV)
def T8 (x:X8):FF:=X8.rec (motive:=fun _=>FF) (fun m a b c d f g h i=>⟨(.n a (.n b (.n g .e .e .e .e) .e .e .e) (.n c (.n h .e .e .e .e) .e .e .e) (.n d (.n i .e .e .e .e) .e .e .e) (.n f .e .e .e .e)),8,m⟩) x
def bWh:Code:=bdx P 90
def c1q:Array Oper:=b9j (pth [0] bWh)
def bZt:RG X8:=fun call yl x s κ=>X8.rec (motive:=fun _=>MO X8) (fun m a b c d f g h i s κ=>κ (X8.mk m a b (.o (.sl none 0 0)) d f g h i) s) x s κ
theorem bU3:RgOk P false c1q T8 bZt:=fun _ _ x _ _=>by cases x;kernel_rfl
def c1p:Array Oper:=b9j (pth [1,0,0] bWh)
def bZs:RG X8:=fun call yl x s κ=>X8.rec (motive:=fun _=>MO X8) (fun m a b c d f g h i s κ=>bg4 a (.o (.sl none 0 0)) 25 .eql P s (fun v0 s=>κ (X8.mk m a b c a v0 g h i) s)) x s κ
theorem bU2:RgOk P false c1p T8 bZs:=fun _ _ x _ _=>by cases x;kernel_rfl
def c1o:Array Oper:=b9j (pth [1,0,1,0,0] bWh)
def bZr:RG X8:=fun call yl x s κ=>X8.rec (motive:=fun _=>MO X8) (fun m a b c d f g h i s κ=>κ (X8.mk m a b (.o (.sl none 0 0)) d f g h i) s) x s κ
theorem bU1:RgOk P false c1o T8 bZr:=fun _ _ x _ _=>by cases x;kernel_rfl
def c1n:Array Oper:=b9j (pth [1,1,0] bWh)
def bZq:RG X8:=fun call yl x s κ=>X8.rec (motive:=fun _=>MO X8) (fun m a b c d f g h i s κ=>bg3 P 25 0 [] s (fun v0 s=>bla P 25 25 v0 a s (fun v1 s=>κ (X8.mk m a b v1 d f v0 a v1) s))) x s κ
theorem bU0:RgOk P false c1n T8 bZq:=fun _ _ x _ _=>by cases x;kernel_rfl
def S90:SF X8:=(b8s (b9h P t0.fq bZt) (b8s (b8s (b9h P t0.fq bZs) (bh0 (fun x=>X8.rec (motive:=fun _=>FV) (fun _ _ _ _ _ z _ _ _=>z) x) (b8s (b9h P t0.fq bZr) bpd) bgg)) (b8s (b9h P t0.fq bZq) bpd)))
theorem cas:Sh P t0.fq T8 bWh S90:=by
 have e:bWh=(.seq (.region 0 c1q false) (.seq (.seq (.region 1 c1p false) (.cond (.tmp 4) (.seq (.region 2 c1o false) .ret) .skip)) (.seq (.region 3 c1n false) .ret))):=by kernel_rfl
 rw [e]
 exact (aq0 (as2 bU3) (aq0 (aq0 (as2 bU2) (bb6 (fun x=>by cases x;rfl) (aq0 (as2 bU1) bbf) bb5)) (aq0 (as2 bU0) bbf)))
def A90:List FV→Option X8:=fun l=>match l with
 | [a]=>some (X8.mk [] a .e .e .e .e .e .e .e)
 | _=>none
def L90:LQ:=bvx P T8 S90 [.tmp 2] 4000 A90
def E90:LA:=ban P t0.fa 4000 90
theorem G90:Good P 90 L90 E90:=b9e bNh (by kernel_rfl) (show FT P 90=some (bWh,8,[.tmp 2]) by kernel_rfl) cas (fun l x h=>by
  unfold A90 at h
  split at h
  ·cases h;exact ⟨by kernel_rfl,by kernel_rfl⟩
  ·cases h) 4000
inductive X19 where
 | mk (m:List Nat) (a b c d f g h i l n o p r t u w y z A:FV)
def T19 (x:X19):FF:=X19.rec (motive:=fun _=>FF) (fun m a b c d f g h i l n o p r t u w y z A=>⟨(.n a (.n b (.n g .e .e .e .e) (.n n .e .e .e .e) (.n t .e .e .e .e) (.n z .e .e .e .e)) (.n c (.n h .e .e .e .e) (.n o .e .e .e .e) (.n u .e .e .e .e) (.n A .e .e .e .e)) (.n d (.n i .e .e .e .e) (.n p .e .e .e .e) (.n w .e .e .e .e) .e) (.n f (.n l .e .e .e .e) (.n r .e .e .e .e) (.n y .e .e .e .e) .e)),19,m⟩) x
def bl4:Code:=bdx P 109
def bR6:Array Oper:=b9j (pth [0] bl4)
def bPf:RG X19:=fun call yl x s κ=>X19.rec (motive:=fun _=>MO X19) (fun m a b c d f g h i l n o p r t u w y z A s κ=>κ (X19.mk m a b c d (.i .i64 0) g h i l n o p r t u w y z A) s) x s κ
theorem bK7:RgOk P false bR6 T19 bPf:=fun _ _ x _ _=>by cases x;kernel_rfl
def bR5:Array Oper:=b9j (pth [1,0,0] bl4)
def bPe:RG X19:=fun call yl x s κ=>X19.rec (motive:=fun _=>MO X19) (fun m a b c d f g h i l n o p r t u w y z A s κ=>bRk a P 25 s (fun v0 s=>κ (X19.mk m a b c d f g a v0 (.i .i64 0) n o p r t u w y z A) s)) x s κ
theorem bK6:RgOk P false bR5 T19 bPe:=fun _ _ x _ _=>by cases x;kernel_rfl
def bR4:Array Oper:=b9j (pth [1,0,1,0,0,0] bl4)
def bPd:RG X19:=fun call yl x s κ=>X19.rec (motive:=fun _=>MO X19) (fun m a b c d f g h i l n o p r t u w y z A s κ=>bg4 l i 3 .lss P s (fun v0 s=>κ (X19.mk m a b c d f g h i l v0 o p r t u w y z A) s)) x s κ
theorem bK5:RgOk P false bR4 T19 bPd:=fun _ _ x _ _=>by cases x;kernel_rfl
def bR3:Array Oper:=b9j (pth [1,0,1,0,0,1,1,0,0,0] bl4)
def bPc:RG X19:=fun call yl x s κ=>X19.rec (motive:=fun _=>MO X19) (fun m a b c d f g h i l n o p r t u w y z A s κ=>κ (X19.mk m a b c d f l h i l n l p r t u w y z A) s) x s κ
theorem bK4:RgOk P false bR3 T19 bPc:=fun _ _ x _ _=>by cases x;kernel_rfl
def bR0:Array Oper:=b9j (pth [1,0,1,0,0,1,1,0,0,1,0] bl4)
def bPb:RG X19:=fun call yl x s κ=>X19.rec (motive:=fun _=>MO X19) (fun m a b c d f g h i l n o p r t u w y z A s κ=>bqu g fun j=>iaS a j 1 s (fun v0 s=>ldV v0 false 1 s (fun v1 s=>bg4 b v1 3 .eql P s (fun v2 s=>κ (X19.mk m a b c d f g h i l n o b a g v0 v1 v2 z A) s)))) x s κ
theorem bK3:RgOk P false bR0 T19 bPb:=fun _ _ x _ _=>by cases x;kernel_rfl
def bQz:Array Oper:=b9j (pth [1,0,1,0,0,1,1,0,0,1,1,0,0] bl4)
def bPa:RG X19:=fun call yl x s κ=>X19.rec (motive:=fun _=>MO X19) (fun m a b c d f g h i l n o p r t u w y z A s κ=>κ (X19.mk m a b c d g g h i l n o p r t u w y g A) s) x s κ
theorem bK2:RgOk P false bQz T19 bPa:=fun _ _ x _ _=>by cases x;kernel_rfl
def bQy:Array Oper:=b9j (pth [1,0,1,0,0,1,1,1] bl4)
def bP9:RG X19:=fun call yl x s κ=>X19.rec (motive:=fun _=>MO X19) (fun m a b c d f g h i l n o p r t u w y z A s κ=>bg4 l (.i .i64 1) 3 .add P s (fun v0 s=>κ (X19.mk m a b c d f g h i v0 n o p r t u w y z v0) s)) x s κ
theorem bK1:RgOk P false bQy T19 bP9:=fun _ _ x _ _=>by cases x;kernel_rfl
def bQx:Array Oper:=b9j (pth [1,1,0] bl4)
def bP8:RG X19:=fun call yl x s κ=>X19.rec (motive:=fun _=>MO X19) (fun m a b c d f g h i l n o p r t u w y z A s κ=>κ (X19.mk m a b c d (.o (.i .i64 (.negSucc 0))) g h i l n o p r t u w y z A) s) x s κ
theorem bK0:RgOk P false bQx T19 bP8:=fun _ _ x _ _=>by cases x;kernel_rfl
def S109:SF X19:=(b8s (b9h P t0.fq bPf) (b8s (b8s (b9h P t0.fq bPe) (bio 0 (boh (b8s (b9h P t0.fq bPd) (b8s (bh0 (fun x=>X19.rec (motive:=fun _=>FV) (fun _ _ _ _ _ _ _ _ _ _ z _ _ _ _ _ _ _ _ _=>z) x) bgg (bs9 0)) (b8s (bio 1 (b8s (b9h P t0.fq bPc) (b8s (b9h P t0.fq bPb) (bh0 (fun x=>X19.rec (motive:=fun _=>FV) (fun _ _ _ _ _ _ _ _ _ _ _ _ _ _ _ _ _ z _ _=>z) x) (b8s (b9h P t0.fq bPa) bpd) bgg)))) (b9h P t0.fq bP9))))))) (b8s (b9h P t0.fq bP8) bpd)))
theorem c4m:Sh P t0.fq T19 bl4 S109:=by
 have e:bl4=(.seq (.region 0 bR6 false) (.seq (.seq (.region 1 bR5 false) (.block 0 (.loop (.seq (.region 2 bR4 false) (.seq (.cond (.tmp 9) .skip (.exit 0)) (.seq (.block 1 (.seq (.region 3 bR3 false) (.seq (.region 4 bR0 false) (.cond (.tmp 16) (.seq (.region 5 bQz false) .ret) .skip)))) (.region 6 bQy false))))))) (.seq (.region 7 bQx false) .ret))):=by kernel_rfl
 rw [e]
 exact (aq0 (as2 bK7) (aq0 (aq0 (as2 bK6) (bcj 0 (bft (aq0 (as2 bK5) (aq0 (bb6 (fun x=>by cases x;rfl) bb5 (bfu 0)) (aq0 (bcj 1 (aq0 (as2 bK4) (aq0 (as2 bK3) (bb6 (fun x=>by cases x;rfl) (aq0 (as2 bK2) bbf) bb5)))) (as2 bK1))))))) (aq0 (as2 bK0) bbf)))
def A109:List FV→Option X19:=fun l=>match l with
 | [a,b]=>some (X19.mk [] a b .e .e .e .e .e .e .e .e .e .e .e .e .e .e .e .e .e)
 | _=>none
def c6e:LQ:=bvx P T19 S109 [.tmp 4] 4000 A109
def c6r:LA:=ban P t0.fa 4000 109
theorem cbc:Good P 109 c6e c6r:=b9e bNh (by kernel_rfl) (show FT P 109=some (bl4,19,[.tmp 4]) by kernel_rfl) c4m (fun l x h=>by
  unfold A109 at h
  split at h
  ·cases h;exact ⟨by kernel_rfl,by kernel_rfl⟩
  ·cases h) 4000
inductive X15 where
 | mk (m:List Nat) (a b c d f g h i l n o p r t u:FV)
def T15 (x:X15):FF:=X15.rec (motive:=fun _=>FF) (fun m a b c d f g h i l n o p r t u=>⟨(.n a (.n b (.n g .e .e .e .e) (.n n .e .e .e .e) (.n t .e .e .e .e) .e) (.n c (.n h .e .e .e .e) (.n o .e .e .e .e) (.n u .e .e .e .e) .e) (.n d (.n i .e .e .e .e) (.n p .e .e .e .e) .e .e) (.n f (.n l .e .e .e .e) (.n r .e .e .e .e) .e .e)),15,m⟩) x
def bGg:Code:=bdx P 113
def bQw:Array Oper:=b9j (pth [0] bGg)
def bP7:RG X15:=fun call yl x s κ=>X15.rec (motive:=fun _=>MO X15) (fun m a b c d f g h i l n o p r t u s κ=>κ (X15.mk m a b c d f g (.b false) i l n o p r t u) s) x s κ
theorem bJz:RgOk P false bQw T15 bP7:=fun _ _ x _ _=>by cases x;kernel_rfl
def bQv:Array Oper:=b9j (pth [1,0] bGg)
def bP6:RG X15:=fun call yl x s κ=>X15.rec (motive:=fun _=>MO X15) (fun m a b c d f g h i l n o p r t u s κ=>bg4 a b 3 .geq P s (fun v0 s=>bnk (fun κ1=>aWg v0 true (κ1 a s) (κ1 .e s)) (fun v1 s=>bnk (fun κ1=>aWg v0 true (κ1 c s) (κ1 .e s)) (fun v2 s=>bnk (fun κ1=>aWg v0 true (bg4 v1 v2 3 .leq P s (κ1)) (κ1 .e s)) (fun v3 s=>bnk (fun κ0=>bfh v0 (κ0 v3 s) (κ0 (.b false) s)) (fun v4 s=>κ (X15.mk m a b c d f g v4 a b v0 v0 v1 v2 v3 v4) s)))))) x s κ
theorem bJy:RgOk P false bQv T15 bP6:=fun _ _ x _ _=>by cases x;kernel_rfl
def S113:SF X15:=(b8s (b9h P t0.fq bP7) (b8s (b9h P t0.fq bP6) bpd))
theorem c4l:Sh P t0.fq T15 bGg S113:=by
 have e:bGg=(.seq (.region 0 bQw false) (.seq (.region 1 bQv false) .ret)):=by kernel_rfl
 rw [e]
 exact (aq0 (as2 bJz) (aq0 (as2 bJy) bbf))
def A113:List FV→Option X15:=fun l=>match l with
 | [a,b,c]=>some (X15.mk [] a b c .e .e .e .e .e .e .e .e .e .e .e .e)
 | _=>none
def c6d:LQ:=bvx P T15 S113 [.tmp 6] 4000 A113
def c6q:LA:=ban P t0.fa 4000 113
theorem cbb:Good P 113 c6d c6q:=b9e bNh (by kernel_rfl) (show FT P 113=some (bGg,15,[.tmp 6]) by kernel_rfl) c4l (fun l x h=>by
  unfold A113 at h
  split at h
  ·cases h;exact ⟨by kernel_rfl,by kernel_rfl⟩
  ·cases h) 4000
inductive X40 where
 | mk (m:List Nat) (a b c d f g h i l n o p r t u w y z A B C D E F G H I J K L M N O Q R S T U W Y:FV)
def T40 (x:X40):FF:=X40.rec (motive:=fun _=>FF) (fun m a b c d f g h i l n o p r t u w y z A B C D E F G H I J K L M N O Q R S T U W Y=>⟨(.n a (.n b (.n g (.n D .e .e .e .e) (.n U .e .e .e .e) .e .e) (.n n (.n H .e .e .e .e) .e .e .e) (.n t (.n L .e .e .e .e) .e .e .e) (.n z (.n Q .e .e .e .e) .e .e .e)) (.n c (.n h (.n E .e .e .e .e) (.n W .e .e .e .e) .e .e) (.n o (.n I .e .e .e .e) .e .e .e) (.n u (.n M .e .e .e .e) .e .e .e) (.n A (.n R .e .e .e .e) .e .e .e)) (.n d (.n i (.n F .e .e .e .e) (.n Y .e .e .e .e) .e .e) (.n p (.n J .e .e .e .e) .e .e .e) (.n w (.n N .e .e .e .e) .e .e .e) (.n B (.n S .e .e .e .e) .e .e .e)) (.n f (.n l (.n G .e .e .e .e) .e .e .e) (.n r (.n K .e .e .e .e) .e .e .e) (.n y (.n O .e .e .e .e) .e .e .e) (.n C (.n T .e .e .e .e) .e .e .e))),40,m⟩) x
def bp3:Code:=bdx P 150
def bQs:Array Oper:=b9j (pth [0] bp3)
def bP3:RG X40:=fun call yl x s κ=>X40.rec (motive:=fun _=>MO X40) (fun m a b c d f g h i l n o p r t u w y z A B C D E F G H I J K L M N O Q R S T U W Y s κ=>κ (X40.mk m a b (.i .i64 0) d f g h i l n o p r t u w y z A B C D E F G H I J K L M N O Q R S T U W Y) s) x s κ
theorem bJv:RgOk P false bQs T40 bP3:=fun _ _ x _ _=>by cases x;kernel_rfl
def bQr:Array Oper:=b9j (pth [1,0] bp3)
def bP2:RG X40:=fun call yl x s κ=>X40.rec (motive:=fun _=>MO X40) (fun m a b c d f g h i l n o p r t u w y z A B C D E F G H I J K L M N O Q R S T U W Y s κ=>bV0 a s (fun v0 s=>bgn v0 1 s (fun v1 s=>bgn v1 3 s (fun v2 s=>ldV v2 false 1 s (fun v3 s=>call 193 [v3] s (fun v4 s=>exV v4 0 s (fun v5 s=>exV v4 1 s (fun v6 s=>bsq P 48 s (fun v7 s=>stA v7 v5 62 s (fun _ s=>κ (X40.mk m a b c v7 v6 v4 a v0 v1 v2 v3 v4 v5 v6 u w y z A B C D E F G H I J K L M N O Q R S T U W Y) s)))))))))) x s κ
theorem bJu:RgOk P false bQr T40 bP2:=fun _ _ x _ _=>by cases x;kernel_rfl
def bQq:Array Oper:=b9j (pth [1,1,0,0] bp3)
def bP1:RG X40:=fun call yl x s κ=>X40.rec (motive:=fun _=>MO X40) (fun m a b c d f g h i l n o p r t u w y z A B C D E F G H I J K L M N O Q R S T U W Y s κ=>(fun qv0=>bdd (fun s κ1=>bg4 f (.i .i64 0) 31 .neq P s (κ1)) s (fun qv1 v2 s=>(fun qv3=>bdd (fun s κ1=>bnk (fun κ1=>aWg v2 false (bgn d 1 s (κ1)) (κ1 .e s)) κ1) s (fun qv4 v5 s=>bdd (fun s κ1=>bnk (fun κ1=>aWg v2 false (ldV v5 false 1 s (κ1)) (κ1 .e s)) κ1) s (fun qv6 v7 s=>bdd (fun s κ1=>bnk (fun κ1=>aWg v2 false (κ1 a s) (κ1 .e s)) κ1) s (fun qv8 v9 s=>bdd (fun s κ1=>bnk (fun κ1=>aWg v2 false (bV0 v9 s (κ1)) (κ1 .e s)) κ1) s (fun qv10 v11 s=>bdd (fun s κ1=>bnk (fun κ1=>aWg v2 false (bgn v11 1 s (κ1)) (κ1 .e s)) κ1) s (fun qv12 v13 s=>bdd (fun s κ1=>bnk (fun κ1=>aWg v2 false (bgn v13 0 s (κ1)) (κ1 .e s)) κ1) s (fun qv14 v15 s=>bdd (fun s κ1=>bnk (fun κ1=>aWg v2 false (ldV v15 false 1 s (κ1)) (κ1 .e s)) κ1) s (fun qv16 v17 s=>bdd (fun s κ1=>bnk (fun κ1=>aWg v2 false (bg4 v7 v17 3 .neq P s (κ1)) (κ1 .e s)) κ1) s (fun qv18 v19 s=>bdd (fun s κ1=>bnk (fun κ0=>bfh v2 (κ0 (.b true) s) (κ0 v19 s)) (κ1)) s (fun qv20 v21 s=>(fun qv22=>bdd (fun s κ1=>bnk (fun κ1=>aWg v21 false (bgn d 2 s (κ1)) (κ1 .e s)) κ1) s (fun qv23 v24 s=>bdd (fun s κ1=>bnk (fun κ1=>aWg v21 false (ldV v24 false 1 s (κ1)) (κ1 .e s)) κ1) s (fun qv25 v26 s=>bdd (fun s κ1=>bnk (fun κ1=>aWg v21 false (κ1 a s) (κ1 .e s)) κ1) s (fun qv27 v28 s=>bdd (fun s κ1=>bnk (fun κ1=>aWg v21 false (bV0 v28 s (κ1)) (κ1 .e s)) κ1) s (fun qv29 v30 s=>bdd (fun s κ1=>bnk (fun κ1=>aWg v21 false (bgn v30 1 s (κ1)) (κ1 .e s)) κ1) s (fun qv31 v32 s=>bdd (fun s κ1=>bnk (fun κ1=>aWg v21 false (bgn v32 1 s (κ1)) (κ1 .e s)) κ1) s (fun qv33 v34 s=>bdd (fun s κ1=>bnk (fun κ1=>aWg v21 false (ldV v34 false 1 s (κ1)) (κ1 .e s)) κ1) s (fun qv35 v36 s=>bdd (fun s κ1=>bnk (fun κ1=>aWg v21 false (bg4 v26 v36 3 .neq P s (κ1)) (κ1 .e s)) κ1) s (fun qv37 v38 s=>bdd (fun s κ1=>bnk (fun κ0=>bfh v21 (κ0 (.b true) s) (κ0 v38 s)) (κ1)) s (fun qv39 v40 s=>V.iff (bW9 [] [qv0,qv1,qv3,qv4,qv6,qv8,qv10,qv12,qv14,qv16,qv18,qv20,qv22,qv23,qv25,qv27,qv29,qv31,qv33,qv35,qv37,qv39] [[],[false],[false,false],[false,false,false],[false,false,false,false],[false,false,false,true,true],[false,false,false,true,true,false],[false,false,false,true,true,false,false],[false,false,false,true,true,false,false,false],[false,false,false,true,true,false,false,false,false],[false,false,false,false,false,false,false,false,false,false],[false,false,false,false,false,false,false,false,false,false,false],[false,false,false,false,false,false,false,false,false,false,false,false],[false,false,false,false,false,false,false,false,false,false,false,false,false],[false,false,false,false,false,false,false,false,false,false,false,false,false,false],[false,false,false,false,false,false,false,false,false,false,false,false,false,true,true],[false,false,false,false,false,false,false,false,false,false,false,false,false,true,true,false],[false,false,false,false,false,false,false,false,false,false,false,false,false,true,true,false,false],[false,false,false,false,false,false,false,false,false,false,false,false,false,true,true,false,false,false],[false,false,false,false,false,false,false,false,false,false,false,false,false,true,true,false,false,false,false],[false,false,false,false,false,false,false,false,false,false,false,false,false,false,false,false,false,false,false,false],[false,false,false,false,false,false,false,false,false,false,false,false,false,false,false,false,false,false,false,false,false]]) (κ (X40.mk m a b c d f g h i l n o p r t f v2 v2 v5 v7 v9 v11 v13 v15 v17 v19 v21 v21 v24 v26 v28 v30 v32 v34 v36 v38 v40 T U W Y) s))))))))))) (qz s))))))))))) (qz s))) (qz s)) x s κ
theorem bJt:RgOk P true bQq T40 bP1:=fun _ _ x _ _=>by cases x;kernel_rfl
def bQp:Array Oper:=b9j (pth [1,1,0,1,0,0] bp3)
def bP0:RG X40:=fun call yl x s κ=>X40.rec (motive:=fun _=>MO X40) (fun m a b c d f g h i l n o p r t u w y z A B C D E F G H I J K L M N O Q R S T U W Y s κ=>κ (X40.mk m a b (.i .i64 3) d f g h i l n o p r t u w y z A B C D E F G H I J K L M N O Q R S T U W Y) s) x s κ
theorem bJs:RgOk P false bQp T40 bP0:=fun _ _ x _ _=>by cases x;kernel_rfl
def bQo:Array Oper:=b9j (pth [1,1,1,0] bp3)
def bOz:RG X40:=fun call yl x s κ=>X40.rec (motive:=fun _=>MO X40) (fun m a b c d f g h i l n o p r t u w y z A B C D E F G H I J K L M N O Q R S T U W Y s κ=>ldV d true 62 s (fun v0 s=>bV0 a s (fun v1 s=>bgn v1 37 s (fun v2 s=>stA v2 v0 62 s (fun _ s=>κ (X40.mk m a b c d f g h i l n o p r t u w y z A B C D E F G H I J K L M N O Q R S a v0 v1 v2) s))))) x s κ
theorem bJr:RgOk P false bQo T40 bOz:=fun _ _ x _ _=>by cases x;kernel_rfl
def bQn:Array Oper:=b9j (pth [1,1,1,1,0] bp3)
def bOy:RG X40:=fun call yl x s κ=>X40.rec (motive:=fun _=>MO X40) (fun m a b c d f g h i l n o p r t u w y z A B C D E F G H I J K L M N O Q R S T U W Y s κ=>κ (X40.mk m a b (.i .i64 0) d f g h i l n o p r t u w y z A B C D E F G H I J K L M N O Q R S T U W Y) s) x s κ
theorem bJq:RgOk P false bQn T40 bOy:=fun _ _ x _ _=>by cases x;kernel_rfl
def S150:SF X40:=(b8s (b9h P t0.fq bP3) (b8s (b9h P t0.fq bP2) (b8s (b8s (b9h P t0.fq bP1) (bh0 (fun x=>X40.rec (motive:=fun _=>FV) (fun _ _ _ _ _ _ _ _ _ _ _ _ _ _ _ _ _ _ _ _ _ _ _ _ _ _ _ _ _ _ _ _ _ _ _ _ z _ _ _ _=>z) x) (b8s (b9h P t0.fq bP0) bpd) bgg)) (b8s (b9h P t0.fq bOz) (b8s (b9h P t0.fq bOy) bpd)))))
theorem c4j:Sh P t0.fq T40 bp3 S150:=by
 have e:bp3=(.seq (.region 0 bQs false) (.seq (.region 1 bQr false) (.seq (.seq (.region 2 bQq true) (.cond (.tmp 35) (.seq (.region 3 bQp false) .ret) .skip)) (.seq (.region 4 bQo false) (.seq (.region 5 bQn false) .ret))))):=by kernel_rfl
 rw [e]
 exact (aq0 (as2 bJv) (aq0 (as2 bJu) (aq0 (aq0 (as2 bJt) (bb6 (fun x=>by cases x;rfl) (aq0 (as2 bJs) bbf) bb5)) (aq0 (as2 bJr) (aq0 (as2 bJq) bbf)))))
def A150:List FV→Option X40:=fun l=>match l with
 | [a]=>some (X40.mk [] a .e .e .e .e .e .e .e .e .e .e .e .e .e .e .e .e .e .e .e .e .e .e .e .e .e .e .e .e .e .e .e .e .e .e .e .e .e .e .e)
 | _=>none
def c6c:LQ:=bvx P T40 S150 [.tmp 2] 4000 A150
def c6p:LA:=ban P t0.fa 4000 150
theorem cba:Good P 150 c6c c6p:=b9e bNh (by kernel_rfl) (show FT P 150=some (bp3,40,[.tmp 2]) by kernel_rfl) c4j (fun l x h=>by
  unfold A150 at h
  split at h
  ·cases h;exact ⟨by kernel_rfl,by kernel_rfl⟩
  ·cases h) 4000
def bl3:Code:=bdx P 153
def bQm:Array Oper:=b9j (pth [0] bl3)
def bOx:RG X19:=fun call yl x s κ=>X19.rec (motive:=fun _=>MO X19) (fun m a b c d f g h i l n o p r t u w y z A s κ=>κ (X19.mk m a b c d (.i .i64 0) g h i l n o p r t u w y z A) s) x s κ
theorem bJp:RgOk P false bQm T19 bOx:=fun _ _ x _ _=>by cases x;kernel_rfl
def bQl:Array Oper:=b9j (pth [1,0,0] bl3)
def bOw:RG X19:=fun call yl x s κ=>X19.rec (motive:=fun _=>MO X19) (fun m a b c d f g h i l n o p r t u w y z A s κ=>bRk a P 30 s (fun v0 s=>κ (X19.mk m a b c d f g a v0 (.i .i64 0) n o p r t u w y z A) s)) x s κ
theorem bJo:RgOk P false bQl T19 bOw:=fun _ _ x _ _=>by cases x;kernel_rfl
def bQk:Array Oper:=b9j (pth [1,0,1,0,0,0] bl3)
def bOv:RG X19:=fun call yl x s κ=>X19.rec (motive:=fun _=>MO X19) (fun m a b c d f g h i l n o p r t u w y z A s κ=>bg4 l i 3 .lss P s (fun v0 s=>κ (X19.mk m a b c d f g h i l v0 o p r t u w y z A) s)) x s κ
theorem bJn:RgOk P false bQk T19 bOv:=fun _ _ x _ _=>by cases x;kernel_rfl
def bQj:Array Oper:=b9j (pth [1,0,1,0,0,1,1,0,0,0] bl3)
def bOu:RG X19:=fun call yl x s κ=>X19.rec (motive:=fun _=>MO X19) (fun m a b c d f g h i l n o p r t u w y z A s κ=>κ (X19.mk m a b c d f l h i l n l p r t u w y z A) s) x s κ
theorem bJm:RgOk P false bQj T19 bOu:=fun _ _ x _ _=>by cases x;kernel_rfl
def bQi:Array Oper:=b9j (pth [1,0,1,0,0,1,1,0,0,1,0] bl3)
def bOt:RG X19:=fun call yl x s κ=>X19.rec (motive:=fun _=>MO X19) (fun m a b c d f g h i l n o p r t u w y z A s κ=>bqu g fun j=>iaS a j 62 s (fun v0 s=>ldV v0 true 62 s (fun v1 s=>bGd b [v1] call yl s (fun v2 s=>κ (X19.mk m a b c d f g h i l n o b a g v0 v1 v2 z A) s)))) x s κ
theorem bJl:RgOk P false bQi T19 bOt:=fun _ _ x _ _=>by cases x;kernel_rfl
def bQh:Array Oper:=b9j (pth [1,0,1,0,0,1,1,0,0,1,1,0,0] bl3)
def bOs:RG X19:=fun call yl x s κ=>X19.rec (motive:=fun _=>MO X19) (fun m a b c d f g h i l n o p r t u w y z A s κ=>κ (X19.mk m a b c d g g h i l n o p r t u w y g A) s) x s κ
theorem bJk:RgOk P false bQh T19 bOs:=fun _ _ x _ _=>by cases x;kernel_rfl
def bQg:Array Oper:=b9j (pth [1,0,1,0,0,1,1,1] bl3)
def bOr:RG X19:=fun call yl x s κ=>X19.rec (motive:=fun _=>MO X19) (fun m a b c d f g h i l n o p r t u w y z A s κ=>bg4 l (.i .i64 1) 3 .add P s (fun v0 s=>κ (X19.mk m a b c d f g h i v0 n o p r t u w y z v0) s)) x s κ
theorem bJj:RgOk P false bQg T19 bOr:=fun _ _ x _ _=>by cases x;kernel_rfl
def bQf:Array Oper:=b9j (pth [1,1,0] bl3)
def bOq:RG X19:=fun call yl x s κ=>X19.rec (motive:=fun _=>MO X19) (fun m a b c d f g h i l n o p r t u w y z A s κ=>κ (X19.mk m a b c d (.o (.i .i64 (.negSucc 0))) g h i l n o p r t u w y z A) s) x s κ
theorem bJi:RgOk P false bQf T19 bOq:=fun _ _ x _ _=>by cases x;kernel_rfl
def S153:SF X19:=(b8s (b9h P t0.fq bOx) (b8s (b8s (b9h P t0.fq bOw) (bio 0 (boh (b8s (b9h P t0.fq bOv) (b8s (bh0 (fun x=>X19.rec (motive:=fun _=>FV) (fun _ _ _ _ _ _ _ _ _ _ z _ _ _ _ _ _ _ _ _=>z) x) bgg (bs9 0)) (b8s (bio 1 (b8s (b9h P t0.fq bOu) (b8s (b9h P t0.fq bOt) (bh0 (fun x=>X19.rec (motive:=fun _=>FV) (fun _ _ _ _ _ _ _ _ _ _ _ _ _ _ _ _ _ z _ _=>z) x) (b8s (b9h P t0.fq bOs) bpd) bgg)))) (b9h P t0.fq bOr))))))) (b8s (b9h P t0.fq bOq) bpd)))
theorem c4i:Sh P t0.fq T19 bl3 S153:=by
 have e:bl3=(.seq (.region 0 bQm false) (.seq (.seq (.region 1 bQl false) (.block 0 (.loop (.seq (.region 2 bQk false) (.seq (.cond (.tmp 9) .skip (.exit 0)) (.seq (.block 1 (.seq (.region 3 bQj false) (.seq (.region 4 bQi false) (.cond (.tmp 16) (.seq (.region 5 bQh false) .ret) .skip)))) (.region 6 bQg false))))))) (.seq (.region 7 bQf false) .ret))):=by kernel_rfl
 rw [e]
 exact (aq0 (as2 bJp) (aq0 (aq0 (as2 bJo) (bcj 0 (bft (aq0 (as2 bJn) (aq0 (bb6 (fun x=>by cases x;rfl) bb5 (bfu 0)) (aq0 (bcj 1 (aq0 (as2 bJm) (aq0 (as2 bJl) (bb6 (fun x=>by cases x;rfl) (aq0 (as2 bJk) bbf) bb5)))) (as2 bJj))))))) (aq0 (as2 bJi) bbf)))
def A153:List FV→Option X19:=fun l=>match l with
 | [a,b]=>some (X19.mk [] a b .e .e .e .e .e .e .e .e .e .e .e .e .e .e .e .e .e)
 | _=>none
def c6b:LQ:=bvx P T19 S153 [.tmp 4] 4000 A153
def c6o:LA:=ban P t0.fa 4000 153
theorem cb9:Good P 153 c6b c6o:=b9e bNh (by kernel_rfl) (show FT P 153=some (bl3,19,[.tmp 4]) by kernel_rfl) c4i (fun l x h=>by
  unfold A153 at h
  split at h
  ·cases h;exact ⟨by kernel_rfl,by kernel_rfl⟩
  ·cases h) 4000
inductive X13 where
 | mk (m:List Nat) (a b c d f g h i l n o p r:FV)
def T13 (x:X13):FF:=X13.rec (motive:=fun _=>FF) (fun m a b c d f g h i l n o p r=>⟨(.n a (.n b (.n g .e .e .e .e) (.n n .e .e .e .e) .e .e) (.n c (.n h .e .e .e .e) (.n o .e .e .e .e) .e .e) (.n d (.n i .e .e .e .e) (.n p .e .e .e .e) .e .e) (.n f (.n l .e .e .e .e) (.n r .e .e .e .e) .e .e)),13,m⟩) x
def bGe:Code:=bdx P 162
def bQ7:Array Oper:=b9j (pth [0] bGe)
def bOi:RG X13:=fun call yl x s κ=>X13.rec (motive:=fun _=>MO X13) (fun m a b c d f g h i l n o p r s κ=>bxV a 48 s (fun v0 s=>κ (X13.mk m a b v0 (.b false) f g h i l n o p r) s)) x s κ
theorem bJa:RgOk P false bQ7 T13 bOi:=fun _ _ x _ _=>by cases x;kernel_rfl
def bQ6:Array Oper:=b9j (pth [1,0] bGe)
def bOh:RG X13:=fun call yl x s κ=>X13.rec (motive:=fun _=>MO X13) (fun m a b c d f g h i l n o p r s κ=>bgn c 0 s (fun v0 s=>ldV v0 false 1 s (fun v1 s=>bg4 v1 (.i .i64 9) 3 .eql P s (fun v2 s=>bnk (fun κ1=>aWg v2 true (bgn c 1 s (κ1)) (κ1 .e s)) (fun v3 s=>bnk (fun κ1=>aWg v2 true (ldV v3 false 1 s (κ1)) (κ1 .e s)) (fun v4 s=>bnk (fun κ1=>aWg v2 true (ldV b false 1 s (κ1)) (κ1 .e s)) (fun v5 s=>bnk (fun κ1=>aWg v2 true (bg4 v4 v5 3 .eql P s (κ1)) (κ1 .e s)) (fun v6 s=>bnk (fun κ0=>bfh v2 (κ0 v6 s) (κ0 (.b false) s)) (fun v7 s=>κ (X13.mk m a b c v7 v0 v1 v2 v2 v3 v4 v5 v6 v7) s))))))))) x s κ
theorem bJ9:RgOk P false bQ6 T13 bOh:=fun _ _ x _ _=>by cases x;kernel_rfl
def S162:SF X13:=(b8s (b9h P t0.fq bOi) (b8s (b9h P t0.fq bOh) bpd))
theorem c4g:Sh P t0.fq T13 bGe S162:=by
 have e:bGe=(.seq (.region 0 bQ7 false) (.seq (.region 1 bQ6 false) .ret)):=by kernel_rfl
 rw [e]
 exact (aq0 (as2 bJa) (aq0 (as2 bJ9) bbf))
def A162:List FV→Option X13:=fun l=>match l with
 | [a,b]=>some (X13.mk [] a b .e .e .e .e .e .e .e .e .e .e .e)
 | _=>none
def c6a:LQ:=bvx P T13 S162 [.tmp 3] 4000 A162
def c6n:LA:=ban P t0.fa 4000 162
theorem cb8:Good P 162 c6a c6n:=b9e bNh (by kernel_rfl) (show FT P 162=some (bGe,13,[.tmp 3]) by kernel_rfl) c4g (fun l x h=>by
  unfold A162 at h
  split at h
  ·cases h;exact ⟨by kernel_rfl,by kernel_rfl⟩
  ·cases h) 4000
inductive X23 where
 | mk (m:List Nat) (a b c d f g h i l n o p r t u w y z A B C D E:FV)
def T23 (x:X23):FF:=X23.rec (motive:=fun _=>FF) (fun m a b c d f g h i l n o p r t u w y z A B C D E=>⟨(.n a (.n b (.n g (.n D .e .e .e .e) .e .e .e) (.n n .e .e .e .e) (.n t .e .e .e .e) (.n z .e .e .e .e)) (.n c (.n h (.n E .e .e .e .e) .e .e .e) (.n o .e .e .e .e) (.n u .e .e .e .e) (.n A .e .e .e .e)) (.n d (.n i .e .e .e .e) (.n p .e .e .e .e) (.n w .e .e .e .e) (.n B .e .e .e .e)) (.n f (.n l .e .e .e .e) (.n r .e .e .e .e) (.n y .e .e .e .e) (.n C .e .e .e .e))),23,m⟩) x
def bl0:Code:=bdx P 181
def bQ5:Array Oper:=b9j (pth [0] bl0)
def bOg:RG X23:=fun call yl x s κ=>X23.rec (motive:=fun _=>MO X23) (fun m a b c d f g h i l n o p r t u w y z A B C D E s κ=>bxV a 78 s (fun v0 s=>κ (X23.mk m a v0 (.o (.sl none 0 0)) d f g h i l n o p r t u w y z A B C D E) s)) x s κ
theorem bJ8:RgOk P false bQ5 T23 bOg:=fun _ _ x _ _=>by cases x;kernel_rfl
def bQ4:Array Oper:=b9j (pth [1,0] bl0)
def bOf:RG X23:=fun call yl x s κ=>X23.rec (motive:=fun _=>MO X23) (fun m a b c d f g h i l n o p r t u w y z A B C D E s κ=>bmo P 76 (.i .i64 0) (.i .i64 24) s (fun v0 s=>κ (X23.mk m a b c v0 f g v0 i l n o p r t u w y z A B C D E) s)) x s κ
theorem bJ7:RgOk P false bQ4 T23 bOf:=fun _ _ x _ _=>by cases x;kernel_rfl
def bQ3:Array Oper:=b9j (pth [1,1,0,0] bl0)
def bOe:RG X23:=fun call yl x s κ=>X23.rec (motive:=fun _=>MO X23) (fun m a b c d f g h i l n o p r t u w y z A B C D E s κ=>bgn b 0 s (fun v0 s=>ldV v0 false 1 s (fun v1 s=>bgn b 1 s (fun v2 s=>ldV v2 false 1 s (fun v3 s=>bgn b 2 s (fun v4 s=>ldV v4 false 1 s (fun v5 s=>bsl P 86 [(0,v1),(1,v3),(2,v5)] s (fun v6 s=>κ (X23.mk m a b c d f g h v0 v1 v2 v3 v4 v5 v6 (.i .i64 0) w y z A B C D E) s)))))))) x s κ
theorem bJ6:RgOk P false bQ3 T23 bOe:=fun _ _ x _ _=>by cases x;kernel_rfl
def bQ2:Array Oper:=b9j (pth [1,1,0,1,0,0,0] bl0)
def bOd:RG X23:=fun call yl x s κ=>X23.rec (motive:=fun _=>MO X23) (fun m a b c d f g h i l n o p r t u w y z A B C D E s κ=>bg4 u (.i .i64 3) 3 .lss P s (fun v0 s=>κ (X23.mk m a b c d f g h i l n o p r t u v0 y z A B C D E) s)) x s κ
theorem bJ5:RgOk P false bQ2 T23 bOd:=fun _ _ x _ _=>by cases x;kernel_rfl
def bQ1:Array Oper:=b9j (pth [1,1,0,1,0,0,1,1,0,0,0] bl0)
def bOc:RG X23:=fun call yl x s κ=>X23.rec (motive:=fun _=>MO X23) (fun m a b c d f g h i l n o p r t u w y z A B C D E s κ=>bqu u fun j=>V.iff (Nat.ble (Nat.succ j) 3) (prV t false (Nat.mul j 1) 1 s (fun v0 s=>κ (X23.mk m a b c d f v0 h i l n o p r t u w v0 z A B C D E) s))) x s κ
theorem bJ4:RgOk P false bQ1 T23 bOc:=fun _ _ x _ _=>by cases x;kernel_rfl
def bQ0:Array Oper:=b9j (pth [1,1,0,1,0,0,1,1,0,0,1] bl0)
def bOb:RG X23:=fun call yl x s κ=>X23.rec (motive:=fun _=>MO X23) (fun m a b c d f g h i l n o p r t u w y z A B C D E s κ=>call 211 [g] s (fun v0 s=>bla P 76 76 d v0 s (fun v1 s=>κ (X23.mk m a b c v1 f g h i l n o p r t u w y d g v0 v1 D E) s))) x s κ
theorem bJ3:RgOk P false bQ0 T23 bOb:=fun _ _ x _ _=>by cases x;kernel_rfl
def bPz:Array Oper:=b9j (pth [1,1,0,1,0,0,1,1,1] bl0)
def bOa:RG X23:=fun call yl x s κ=>X23.rec (motive:=fun _=>MO X23) (fun m a b c d f g h i l n o p r t u w y z A B C D E s κ=>bg4 u (.i .i64 1) 3 .add P s (fun v0 s=>κ (X23.mk m a b c d f g h i l n o p r t v0 w y z A B C v0 E) s)) x s κ
theorem bJ2:RgOk P false bPz T23 bOa:=fun _ _ x _ _=>by cases x;kernel_rfl
def bPy:Array Oper:=b9j (pth [1,1,1,0] bl0)
def bO9:RG X23:=fun call yl x s κ=>X23.rec (motive:=fun _=>MO X23) (fun m a b c d f g h i l n o p r t u w y z A B C D E s κ=>κ (X23.mk m a b d d f g h i l n o p r t u w y z A B C D d) s) x s κ
theorem bJ1:RgOk P false bPy T23 bO9:=fun _ _ x _ _=>by cases x;kernel_rfl
def S181:SF X23:=(b8s (b9h P t0.fq bOg) (b8s (b9h P t0.fq bOf) (b8s (b8s (b9h P t0.fq bOe) (bio 0 (boh (b8s (b9h P t0.fq bOd) (b8s (bh0 (fun x=>X23.rec (motive:=fun _=>FV) (fun _ _ _ _ _ _ _ _ _ _ _ _ _ _ _ _ z _ _ _ _ _ _ _=>z) x) bgg (bs9 0)) (b8s (bio 1 (b8s (b9h P t0.fq bOc) (b9h P t0.fq bOb))) (b9h P t0.fq bOa))))))) (b8s (b9h P t0.fq bO9) bpd))))
theorem c4f:Sh P t0.fq T23 bl0 S181:=by
 have e:bl0=(.seq (.region 0 bQ5 false) (.seq (.region 1 bQ4 false) (.seq (.seq (.region 2 bQ3 false) (.block 0 (.loop (.seq (.region 3 bQ2 false) (.seq (.cond (.tmp 15) .skip (.exit 0)) (.seq (.block 1 (.seq (.region 4 bQ1 false) (.region 5 bQ0 false))) (.region 6 bPz false))))))) (.seq (.region 7 bPy false) .ret)))):=by kernel_rfl
 rw [e]
 exact (aq0 (as2 bJ8) (aq0 (as2 bJ7) (aq0 (aq0 (as2 bJ6) (bcj 0 (bft (aq0 (as2 bJ5) (aq0 (bb6 (fun x=>by cases x;rfl) bb5 (bfu 0)) (aq0 (bcj 1 (aq0 (as2 bJ4) (as2 bJ3))) (as2 bJ2))))))) (aq0 (as2 bJ1) bbf))))
def A181:List FV→Option X23:=fun l=>match l with
 | [a]=>some (X23.mk [] a .e .e .e .e .e .e .e .e .e .e .e .e .e .e .e .e .e .e .e .e .e .e)
 | _=>none
def c69:LQ:=bvx P T23 S181 [.tmp 2] 4000 A181
def c6m:LA:=ban P t0.fa 4000 181
theorem cb7:Good P 181 c69 c6m:=b9e bNh (by kernel_rfl) (show FT P 181=some (bl0,23,[.tmp 2]) by kernel_rfl) c4f (fun l x h=>by
  unfold A181 at h
  split at h
  ·cases h;exact ⟨by kernel_rfl,by kernel_rfl⟩
  ·cases h) 4000
def t1:LT:=(.n 155 c4u c52 (.n 113 c6d c6q (.n 90 L90 E90 (.n 34 L34 E34 (.n 26 L26 E26 .e .e) .e) (.n 109 c6e c6r .e .e)) (.n 150 c6c c6p (.n 128 c4v c54 .e .e) (.n 153 c6b c6o .e .e))) (.n 180 c4r c4y (.n 172 c4t c50 (.n 162 c6a c6n .e .e) (.n 173 c4s c4z .e .e)) (.n 193 c4q c4x (.n 181 c69 c6m .e .e) (.n 211 c4p c4w .e .e))))
theorem all1:t1.all (Good P):=⟨c6k,⟨cbb,⟨G90,⟨G34,⟨G26,trivial,trivial⟩,trivial⟩,⟨cbc,trivial,trivial⟩⟩,⟨cba,⟨c6l,trivial,trivial⟩,⟨cb9,trivial,trivial⟩⟩⟩,⟨c6h,⟨c6j,⟨cb8,trivial,trivial⟩,⟨c6i,trivial,trivial⟩⟩,⟨c6g,⟨cb7,trivial,trivial⟩,⟨c6f,trivial,trivial⟩⟩⟩⟩
end
end Q
end V
end Go.CE
namespace Go.CE
namespace V
namespace Q
set_option maxRecDepth 100000
noncomputable section
variable [Sym] [avd]
inductive X22 where
 | mk (m:List Nat) (a b c d f g h i l n o p r t u w y z A B C D:FV)
def T22 (x:X22):FF:=X22.rec (motive:=fun _=>FF) (fun m a b c d f g h i l n o p r t u w y z A B C D=>⟨(.n a (.n b (.n g (.n D .e .e .e .e) .e .e .e) (.n n .e .e .e .e) (.n t .e .e .e .e) (.n z .e .e .e .e)) (.n c (.n h .e .e .e .e) (.n o .e .e .e .e) (.n u .e .e .e .e) (.n A .e .e .e .e)) (.n d (.n i .e .e .e .e) (.n p .e .e .e .e) (.n w .e .e .e .e) (.n B .e .e .e .e)) (.n f (.n l .e .e .e .e) (.n r .e .e .e .e) (.n y .e .e .e .e) (.n C .e .e .e .e))),22,m⟩) x
def bAc:Code:=bdx P 91
def c1m:Array Oper:=b9j (pth [0] bAc)
def bZp:RG X22:=fun call yl x s κ=>X22.rec (motive:=fun _=>MO X22) (fun m a b c d f g h i l n o p r t u w y z A B C D s κ=>κ (X22.mk m a b (.o (.sl none 0 0)) d f g h i l n o p r t u w y z A B C D) s) x s κ
theorem bTz:RgOk P false c1m T22 bZp:=fun _ _ x _ _=>by cases x;kernel_rfl
def c1l:Array Oper:=b9j (pth [1,0] bAc)
def bZo:RG X22:=fun call yl x s κ=>X22.rec (motive:=fun _=>MO X22) (fun m a b c d f g h i l n o p r t u w y z A B C D s κ=>κ (X22.mk m a b c (.o (.sl none 0 0)) f g h i l n o p r t u w y z A B C D) s) x s κ
theorem bTy:RgOk P false c1l T22 bZo:=fun _ _ x _ _=>by cases x;kernel_rfl
def c1k:Array Oper:=b9j (pth [1,1,0,0] bAc)
def bZn:RG X22:=fun call yl x s κ=>X22.rec (motive:=fun _=>MO X22) (fun m a b c d f g h i l n o p r t u w y z A B C D s κ=>bRk a P 26 s (fun v0 s=>κ (X22.mk m a b c d f g a v0 (.i .i64 0) n o p r t u w y z A B C D) s)) x s κ
theorem bTx:RgOk P false c1k T22 bZn:=fun _ _ x _ _=>by cases x;kernel_rfl
def c1j:Array Oper:=b9j (pth [1,1,0,1,0,0,0] bAc)
def bZm:RG X22:=fun call yl x s κ=>X22.rec (motive:=fun _=>MO X22) (fun m a b c d f g h i l n o p r t u w y z A B C D s κ=>bg4 l i 3 .lss P s (fun v0 s=>κ (X22.mk m a b c d f g h i l v0 o p r t u w y z A B C D) s)) x s κ
theorem bTw:RgOk P false c1j T22 bZm:=fun _ _ x _ _=>by cases x;kernel_rfl
def c1i:Array Oper:=b9j (pth [1,1,0,1,0,0,1,1,0,0,0] bAc)
def bZl:RG X22:=fun call yl x s κ=>X22.rec (motive:=fun _=>MO X22) (fun m a b c d f g h i l n o p r t u w y z A B C D s κ=>bqu l fun j=>iaS h j 36 s (fun v0 s=>ldV v0 true 36 s (fun v1 s=>bsq P 78 s (fun v2 s=>stA v2 v1 36 s (fun _ s=>κ (X22.mk m a b c d f v2 h i l n v0 v1 r t u w y z A B C D) s))))) x s κ
theorem bTv:RgOk P false c1i T22 bZl:=fun _ _ x _ _=>by cases x;kernel_rfl
def c1h:Array Oper:=b9j (pth [1,1,0,1,0,0,1,1,0,0,1,0] bAc)
def bZk:RG X22:=fun call yl x s κ=>X22.rec (motive:=fun _=>MO X22) (fun m a b c d f g h i l n o p r t u w y z A B C D s κ=>bgn g 3 s (fun v0 s=>ldV v0 false 1 s (fun v1 s=>call 124 [v1] s (fun v2 s=>bgn g 3 s (fun v3 s=>stA v3 v2 1 s (fun _ s=>κ (X22.mk m a b c d f g h i l n o p v0 v1 v2 v3 y z A B C D) s)))))) x s κ
theorem bTu:RgOk P false c1h T22 bZk:=fun _ _ x _ _=>by cases x;kernel_rfl
def c1g:Array Oper:=b9j (pth [1,1,0,1,0,0,1,1,0,0,1,1] bAc)
def bZj:RG X22:=fun call yl x s κ=>X22.rec (motive:=fun _=>MO X22) (fun m a b c d f g h i l n o p r t u w y z A B C D s κ=>ldV g true 36 s (fun v0 s=>bg3 P 26 1 [(0,v0)] s (fun v1 s=>bla P 26 26 d v1 s (fun v2 s=>κ (X22.mk m a b c v2 f g h i l n o p r t u w d v0 v1 v2 C D) s)))) x s κ
theorem bTt:RgOk P false c1g T22 bZj:=fun _ _ x _ _=>by cases x;kernel_rfl
def c1f:Array Oper:=b9j (pth [1,1,0,1,0,0,1,1,1] bAc)
def bZi:RG X22:=fun call yl x s κ=>X22.rec (motive:=fun _=>MO X22) (fun m a b c d f g h i l n o p r t u w y z A B C D s κ=>bg4 l (.i .i64 1) 3 .add P s (fun v0 s=>κ (X22.mk m a b c d f g h i v0 n o p r t u w y z A B v0 D) s)) x s κ
theorem bTs:RgOk P false c1f T22 bZi:=fun _ _ x _ _=>by cases x;kernel_rfl
def c1e:Array Oper:=b9j (pth [1,1,1,0] bAc)
def bZh:RG X22:=fun call yl x s κ=>X22.rec (motive:=fun _=>MO X22) (fun m a b c d f g h i l n o p r t u w y z A B C D s κ=>κ (X22.mk m a b d d f g h i l n o p r t u w y z A B C d) s) x s κ
theorem bTr:RgOk P false c1e T22 bZh:=fun _ _ x _ _=>by cases x;kernel_rfl
def S91:SF X22:=(b8s (b9h P t1.fq bZp) (b8s (b9h P t1.fq bZo) (b8s (b8s (b9h P t1.fq bZn) (bio 0 (boh (b8s (b9h P t1.fq bZm) (b8s (bh0 (fun x=>X22.rec (motive:=fun _=>FV) (fun _ _ _ _ _ _ _ _ _ _ z _ _ _ _ _ _ _ _ _ _ _ _=>z) x) bgg (bs9 0)) (b8s (bio 1 (b8s (b9h P t1.fq bZl) (b8s (b9h P t1.fq bZk) (b9h P t1.fq bZj)))) (b9h P t1.fq bZi))))))) (b8s (b9h P t1.fq bZh) bpd))))
theorem car:Sh P t1.fq T22 bAc S91:=by
 have e:bAc=(.seq (.region 0 c1m false) (.seq (.region 1 c1l false) (.seq (.seq (.region 2 c1k false) (.block 0 (.loop (.seq (.region 3 c1j false) (.seq (.cond (.tmp 9) .skip (.exit 0)) (.seq (.block 1 (.seq (.region 4 c1i false) (.seq (.region 5 c1h false) (.region 6 c1g false)))) (.region 7 c1f false))))))) (.seq (.region 8 c1e false) .ret)))):=by kernel_rfl
 rw [e]
 exact (aq0 (as2 bTz) (aq0 (as2 bTy) (aq0 (aq0 (as2 bTx) (bcj 0 (bft (aq0 (as2 bTw) (aq0 (bb6 (fun x=>by cases x;rfl) bb5 (bfu 0)) (aq0 (bcj 1 (aq0 (as2 bTv) (aq0 (as2 bTu) (as2 bTt)))) (as2 bTs))))))) (aq0 (as2 bTr) bbf))))
def A91:List FV→Option X22:=fun l=>match l with
 | [a]=>some (X22.mk [] a .e .e .e .e .e .e .e .e .e .e .e .e .e .e .e .e .e .e .e .e .e)
 | _=>none
def L91:LQ:=bvx P T22 S91 [.tmp 2] 4000 A91
def E91:LA:=ban P t1.fa 4000 91
theorem G91:Good P 91 L91 E91:=b9e all1 (by kernel_rfl) (show FT P 91=some (bAc,22,[.tmp 2]) by kernel_rfl) car (fun l x h=>by
  unfold A91 at h
  split at h
  ·cases h;exact ⟨by kernel_rfl,by kernel_rfl⟩
  ·cases h) 4000
inductive X62 where
 | mk (m:List Nat) (a b c d f g h i l n o p r t u w y z A B C D E F G H I J K L M N O Q R S T U W Y Z a1 b1 c1 d1 f1 g1 h1 i1 l1 n1 o1 p1 r1 t1 u1 w1 y1 z1 A1 B1 C1:FV)
def T62 (x:X62):FF:=X62.rec (motive:=fun _=>FF) (fun m a b c d f g h i l n o p r t u w y z A B C D E F G H I J K L M N O Q R S T U W Y Z a1 b1 c1 d1 f1 g1 h1 i1 l1 n1 o1 p1 r1 t1 u1 w1 y1 z1 A1 B1 C1=>⟨(.n a (.n b (.n g (.n D .e .e .e .e) (.n U .e .e .e .e) (.n r1 .e .e .e .e) .e) (.n n (.n H .e .e .e .e) (.n a1 .e .e .e .e) (.n y1 .e .e .e .e) .e) (.n t (.n L .e .e .e .e) (.n f1 .e .e .e .e) (.n C1 .e .e .e .e) .e) (.n z (.n Q .e .e .e .e) (.n l1 .e .e .e .e) .e .e)) (.n c (.n h (.n E .e .e .e .e) (.n W .e .e .e .e) (.n t1 .e .e .e .e) .e) (.n o (.n I .e .e .e .e) (.n b1 .e .e .e .e) (.n z1 .e .e .e .e) .e) (.n u (.n M .e .e .e .e) (.n g1 .e .e .e .e) .e .e) (.n A (.n R .e .e .e .e) (.n n1 .e .e .e .e) .e .e)) (.n d (.n i (.n F .e .e .e .e) (.n Y .e .e .e .e) (.n u1 .e .e .e .e) .e) (.n p (.n J .e .e .e .e) (.n c1 .e .e .e .e) (.n A1 .e .e .e .e) .e) (.n w (.n N .e .e .e .e) (.n h1 .e .e .e .e) .e .e) (.n B (.n S .e .e .e .e) (.n o1 .e .e .e .e) .e .e)) (.n f (.n l (.n G .e .e .e .e) (.n Z .e .e .e .e) (.n w1 .e .e .e .e) .e) (.n r (.n K .e .e .e .e) (.n d1 .e .e .e .e) (.n B1 .e .e .e .e) .e) (.n y (.n O .e .e .e .e) (.n i1 .e .e .e .e) .e .e) (.n C (.n T .e .e .e .e) (.n p1 .e .e .e .e) .e .e))),62,m⟩) x
def bl5:Code:=bdx P 103
def bRe:Array Oper:=b9j (pth [0] bl5)
def bPn:RG X62:=fun call yl x s κ=>X62.rec (motive:=fun _=>MO X62) (fun m a b c d f g h i l n o p r t u w y z A B C D E F G H I J K L M N O Q R S T U W Y Z a1 b1 c1 d1 f1 g1 h1 i1 l1 n1 o1 p1 r1 t1 u1 w1 y1 z1 A1 B1 C1 s κ=>bxV a 144 s (fun v0 s=>κ (X62.mk m a v0 (.b false) d f g h i l n o p r t u w y z A B C D E F G H I J K L M N O Q R S T U W Y Z a1 b1 c1 d1 f1 g1 h1 i1 l1 n1 o1 p1 r1 t1 u1 w1 y1 z1 A1 B1 C1) s)) x s κ
theorem bKf:RgOk P false bRe T62 bPn:=fun _ _ x _ _=>by cases x;kernel_rfl
def bRd:Array Oper:=b9j (pth [1,0] bl5)
def bPm:RG X62:=fun call yl x s κ=>X62.rec (motive:=fun _=>MO X62) (fun m a b c d f g h i l n o p r t u w y z A B C D E F G H I J K L M N O Q R S T U W Y Z a1 b1 c1 d1 f1 g1 h1 i1 l1 n1 o1 p1 r1 t1 u1 w1 y1 z1 A1 B1 C1 s κ=>κ (X62.mk m a b c (.b true) f g h i l n o p r t u w y z A B C D E F G H I J K L M N O Q R S T U W Y Z a1 b1 c1 d1 f1 g1 h1 i1 l1 n1 o1 p1 r1 t1 u1 w1 y1 z1 A1 B1 C1) s) x s κ
theorem bKe:RgOk P false bRd T62 bPm:=fun _ _ x _ _=>by cases x;kernel_rfl
def bRc:Array Oper:=b9j (pth [1,1,0,0] bl5)
def bPl:RG X62:=fun call yl x s κ=>X62.rec (motive:=fun _=>MO X62) (fun m a b c d f g h i l n o p r t u w y z A B C D E F G H I J K L M N O Q R S T U W Y Z a1 b1 c1 d1 f1 g1 h1 i1 l1 n1 o1 p1 r1 t1 u1 w1 y1 z1 A1 B1 C1 s κ=>bgn b 3 s (fun v0 s=>ldV v0 false 1 s (fun v1 s=>bRk v1 P 25 s (fun v2 s=>κ (X62.mk m a b c d f g v0 v1 v2 (.i .i64 0) o p r t u w y z A B C D E F G H I J K L M N O Q R S T U W Y Z a1 b1 c1 d1 f1 g1 h1 i1 l1 n1 o1 p1 r1 t1 u1 w1 y1 z1 A1 B1 C1) s)))) x s κ
theorem bKd:RgOk P false bRc T62 bPl:=fun _ _ x _ _=>by cases x;kernel_rfl
def bRb:Array Oper:=b9j (pth [1,1,0,1,0,0,0] bl5)
def bPk:RG X62:=fun call yl x s κ=>X62.rec (motive:=fun _=>MO X62) (fun m a b c d f g h i l n o p r t u w y z A B C D E F G H I J K L M N O Q R S T U W Y Z a1 b1 c1 d1 f1 g1 h1 i1 l1 n1 o1 p1 r1 t1 u1 w1 y1 z1 A1 B1 C1 s κ=>bg4 n l 3 .lss P s (fun v0 s=>κ (X62.mk m a b c d f g h i l n v0 p r t u w y z A B C D E F G H I J K L M N O Q R S T U W Y Z a1 b1 c1 d1 f1 g1 h1 i1 l1 n1 o1 p1 r1 t1 u1 w1 y1 z1 A1 B1 C1) s)) x s κ
theorem bKc:RgOk P false bRb T62 bPk:=fun _ _ x _ _=>by cases x;kernel_rfl
def bRa:Array Oper:=b9j (pth [1,1,0,1,0,0,1,1,0,0,0] bl5)
def bPj:RG X62:=fun call yl x s κ=>X62.rec (motive:=fun _=>MO X62) (fun m a b c d f g h i l n o p r t u w y z A B C D E F G H I J K L M N O Q R S T U W Y Z a1 b1 c1 d1 f1 g1 h1 i1 l1 n1 o1 p1 r1 t1 u1 w1 y1 z1 A1 B1 C1 s κ=>bqu n fun j=>iaS i j 1 s (fun v0 s=>ldV v0 false 1 s (fun v1 s=>κ (X62.mk m a b c d n v1 h i l n o n v0 v1 u w y z A B C D E F G H I J K L M N O Q R S T U W Y Z a1 b1 c1 d1 f1 g1 h1 i1 l1 n1 o1 p1 r1 t1 u1 w1 y1 z1 A1 B1 C1) s))) x s κ
theorem bKb:RgOk P false bRa T62 bPj:=fun _ _ x _ _=>by cases x;kernel_rfl
def bR9:Array Oper:=b9j (pth [1,1,0,1,0,0,1,1,0,0,1] bl5)
def bPi:RG X62:=fun call yl x s κ=>X62.rec (motive:=fun _=>MO X62) (fun m a b c d f g h i l n o p r t u w y z A B C D E F G H I J K L M N O Q R S T U W Y Z a1 b1 c1 d1 f1 g1 h1 i1 l1 n1 o1 p1 r1 t1 u1 w1 y1 z1 A1 B1 C1 s κ=>bnk (fun κ1=>aWg d true (κ1 g s) (κ1 .e s)) (fun v0 s=>bnk (fun κ1=>aWg d true (call 113 [v0,(.i .i64 0),(.i .i64 15)] s (κ1)) (κ1 .e s)) (fun v1 s=>bnk (fun κ0=>bfh d (κ0 v1 s) (κ0 (.b false) s)) (fun v2 s=>bnk (fun κ1=>aWg v2 true (κ1 g s) (κ1 .e s)) (fun v3 s=>bnk (fun κ1=>aWg v2 true (bgn b 1 s (κ1)) (κ1 .e s)) (fun v4 s=>bnk (fun κ1=>aWg v2 true (ldV v4 false 1 s (κ1)) (κ1 .e s)) (fun v5 s=>bnk (fun κ1=>aWg v2 true (bg4 v3 v5 3 .neq P s (κ1)) (κ1 .e s)) (fun v6 s=>bnk (fun κ0=>bfh v2 (κ0 v6 s) (κ0 (.b false) s)) (fun v7 s=>bnk (fun κ1=>aWg v7 true (κ1 f s) (κ1 .e s)) (fun v8 s=>bnk (fun κ1=>aWg v7 true (bg4 v8 (.i .i64 0) 3 .eql P s (κ1)) (κ1 .e s)) (fun v9 s=>bnk (fun κ1=>aWg v7 true (κ1 v9 s) (κ1 .e s)) (fun v10 s=>bnk (fun κ1=>aWg v10 false (bgn b 3 s (κ1)) (κ1 .e s)) (fun v11 s=>bnk (fun κ1=>aWg v10 false (ldV v11 false 1 s (κ1)) (κ1 .e s)) (fun v12 s=>bnk (fun κ1=>aWg v10 false (κ1 f s) (κ1 .e s)) (fun v13 s=>bnk (fun κ1=>aWg v10 false (bg4 v13 (.i .i64 1) 3 .sub P s (κ1)) (κ1 .e s)) (fun v14 s=>bnk (fun κ1=>aWg v10 false (bqu v14 fun j=>iaS v12 j 1 s (κ1)) (κ1 .e s)) (fun v15 s=>bnk (fun κ1=>aWg v10 false (ldV v15 false 1 s (κ1)) (κ1 .e s)) (fun v16 s=>bnk (fun κ1=>aWg v10 false (κ1 g s) (κ1 .e s)) (fun v17 s=>bnk (fun κ1=>aWg v10 false (bg4 v16 v17 3 .lss P s (κ1)) (κ1 .e s)) (fun v18 s=>bnk (fun κ1=>aWg v7 true (bnk (fun κ0=>bfh v10 (κ0 (.b true) s) (κ0 v18 s)) (κ1)) (κ1 .e s)) (fun v19 s=>bnk (fun κ0=>bfh v7 (κ0 v19 s) (κ0 (.b false) s)) (fun v20 s=>κ (X62.mk m a b c v20 f g h i l n o p r t d d v0 v1 v2 v2 v3 v4 v5 v6 v7 v7 v8 v9 v10 v11 v12 v13 v14 v15 v16 v17 v18 v19 v20 Y Z a1 b1 c1 d1 f1 g1 h1 i1 l1 n1 o1 p1 r1 t1 u1 w1 y1 z1 A1 B1 C1) s)))))))))))))))))))))) x s κ
theorem bKa:RgOk P false bR9 T62 bPi:=fun _ _ x _ _=>by cases x;kernel_rfl
def bR8:Array Oper:=b9j (pth [1,1,0,1,0,0,1,1,1] bl5)
def bPh:RG X62:=fun call yl x s κ=>X62.rec (motive:=fun _=>MO X62) (fun m a b c d f g h i l n o p r t u w y z A B C D E F G H I J K L M N O Q R S T U W Y Z a1 b1 c1 d1 f1 g1 h1 i1 l1 n1 o1 p1 r1 t1 u1 w1 y1 z1 A1 B1 C1 s κ=>bg4 n (.i .i64 1) 3 .add P s (fun v0 s=>κ (X62.mk m a b c d f g h i l v0 o p r t u w y z A B C D E F G H I J K L M N O Q R S T U W v0 Z a1 b1 c1 d1 f1 g1 h1 i1 l1 n1 o1 p1 r1 t1 u1 w1 y1 z1 A1 B1 C1) s)) x s κ
theorem bK9:RgOk P false bR8 T62 bPh:=fun _ _ x _ _=>by cases x;kernel_rfl
def bR7:Array Oper:=b9j (pth [1,1,1,0] bl5)
def bPg:RG X62:=fun call yl x s κ=>X62.rec (motive:=fun _=>MO X62) (fun m a b c d f g h i l n o p r t u w y z A B C D E F G H I J K L M N O Q R S T U W Y Z a1 b1 c1 d1 f1 g1 h1 i1 l1 n1 o1 p1 r1 t1 u1 w1 y1 z1 A1 B1 C1 s κ=>bnk (fun κ1=>aWg d true (bgn b 0 s (κ1)) (κ1 .e s)) (fun v0 s=>bnk (fun κ1=>aWg d true (ldV v0 false 1 s (κ1)) (κ1 .e s)) (fun v1 s=>bnk (fun κ1=>aWg d true (call 113 [v1,(.i .i64 1),(.i .i64 1099511627776)] s (κ1)) (κ1 .e s)) (fun v2 s=>bnk (fun κ0=>bfh d (κ0 v2 s) (κ0 (.b false) s)) (fun v3 s=>bnk (fun κ1=>aWg v3 true (bgn b 1 s (κ1)) (κ1 .e s)) (fun v4 s=>bnk (fun κ1=>aWg v3 true (ldV v4 false 1 s (κ1)) (κ1 .e s)) (fun v5 s=>bnk (fun κ1=>aWg v3 true (call 113 [v5,(.i .i64 0),(.i .i64 15)] s (κ1)) (κ1 .e s)) (fun v6 s=>bnk (fun κ0=>bfh v3 (κ0 v6 s) (κ0 (.b false) s)) (fun v7 s=>bnk (fun κ1=>aWg v7 true (bgn b 2 s (κ1)) (κ1 .e s)) (fun v8 s=>bnk (fun κ1=>aWg v7 true (ldV v8 false 1 s (κ1)) (κ1 .e s)) (fun v9 s=>bnk (fun κ1=>aWg v7 true (call 113 [v9,(.i .i64 0),(.i .i64 2251799813685248)] s (κ1)) (κ1 .e s)) (fun v10 s=>bnk (fun κ0=>bfh v7 (κ0 v10 s) (κ0 (.b false) s)) (fun v11 s=>bnk (fun κ1=>aWg v11 true (bgn b 3 s (κ1)) (κ1 .e s)) (fun v12 s=>bnk (fun κ1=>aWg v11 true (ldV v12 false 1 s (κ1)) (κ1 .e s)) (fun v13 s=>bnk (fun κ1=>aWg v11 true (bRk v13 P 25 s (κ1)) (κ1 .e s)) (fun v14 s=>bnk (fun κ1=>aWg v11 true (call 113 [v14,(.i .i64 1),(.i .i64 15)] s (κ1)) (κ1 .e s)) (fun v15 s=>bnk (fun κ0=>bfh v11 (κ0 v15 s) (κ0 (.b false) s)) (fun v16 s=>κ (X62.mk m a b v16 d f g h i l n o p r t u w y z A B C D E F G H I J K L M N O Q R S T U W Y d d v0 v1 v2 v3 v3 v4 v5 v6 v7 v7 v8 v9 v10 v11 v11 v12 v13 v14 v15 v16) s)))))))))))))))))) x s κ
theorem bK8:RgOk P false bR7 T62 bPg:=fun _ _ x _ _=>by cases x;kernel_rfl
def S103:SF X62:=(b8s (b9h P t1.fq bPn) (b8s (b9h P t1.fq bPm) (b8s (b8s (b9h P t1.fq bPl) (bio 0 (boh (b8s (b9h P t1.fq bPk) (b8s (bh0 (fun x=>X62.rec (motive:=fun _=>FV) (fun _ _ _ _ _ _ _ _ _ _ _ z _ _ _ _ _ _ _ _ _ _ _ _ _ _ _ _ _ _ _ _ _ _ _ _ _ _ _ _ _ _ _ _ _ _ _ _ _ _ _ _ _ _ _ _ _ _ _ _ _ _ _=>z) x) bgg (bs9 0)) (b8s (bio 1 (b8s (b9h P t1.fq bPj) (b9h P t1.fq bPi))) (b9h P t1.fq bPh))))))) (b8s (b9h P t1.fq bPg) bpd))))
theorem c4n:Sh P t1.fq T62 bl5 S103:=by
 have e:bl5=(.seq (.region 0 bRe false) (.seq (.region 1 bRd false) (.seq (.seq (.region 2 bRc false) (.block 0 (.loop (.seq (.region 3 bRb false) (.seq (.cond (.tmp 10) .skip (.exit 0)) (.seq (.block 1 (.seq (.region 4 bRa false) (.region 5 bR9 false))) (.region 6 bR8 false))))))) (.seq (.region 7 bR7 false) .ret)))):=by kernel_rfl
 rw [e]
 exact (aq0 (as2 bKf) (aq0 (as2 bKe) (aq0 (aq0 (as2 bKd) (bcj 0 (bft (aq0 (as2 bKc) (aq0 (bb6 (fun x=>by cases x;rfl) bb5 (bfu 0)) (aq0 (bcj 1 (aq0 (as2 bKb) (as2 bKa))) (as2 bK9))))))) (aq0 (as2 bK8) bbf))))
def A103:List FV→Option X62:=fun l=>match l with
 | [a]=>some (X62.mk [] a .e .e .e .e .e .e .e .e .e .e .e .e .e .e .e .e .e .e .e .e .e .e .e .e .e .e .e .e .e .e .e .e .e .e .e .e .e .e .e .e .e .e .e .e .e .e .e .e .e .e .e .e .e .e .e .e .e .e .e .e .e)
 | _=>none
def caz:LQ:=bvx P T62 S103 [.tmp 2] 4000 A103
def cbh:LA:=ban P t1.fa 4000 103
theorem G103:Good P 103 caz cbh:=b9e all1 (by kernel_rfl) (show FT P 103=some (bl5,62,[.tmp 2]) by kernel_rfl) c4n (fun l x h=>by
  unfold A103 at h
  split at h
  ·cases h;exact ⟨by kernel_rfl,by kernel_rfl⟩
  ·cases h) 4000
inductive X9 where
 | mk (m:List Nat) (a b c d f g h i l:FV)
def T9 (x:X9):FF:=X9.rec (motive:=fun _=>FF) (fun m a b c d f g h i l=>⟨(.n a (.n b (.n g .e .e .e .e) .e .e .e) (.n c (.n h .e .e .e .e) .e .e .e) (.n d (.n i .e .e .e .e) .e .e .e) (.n f (.n l .e .e .e .e) .e .e .e)),9,m⟩) x
def bGf:Code:=bdx P 118
def bQu:Array Oper:=b9j (pth [0] bGf)
def bP5:RG X9:=fun call yl x s κ=>X9.rec (motive:=fun _=>MO X9) (fun m a b c d f g h i l s κ=>κ (X9.mk m a b c d (.b false) g h i l) s) x s κ
theorem bJx:RgOk P false bQu T9 bP5:=fun _ _ x _ _=>by cases x;kernel_rfl
def bQt:Array Oper:=b9j (pth [1,0] bGf)
def bP4:RG X9:=fun call yl x s κ=>X9.rec (motive:=fun _=>MO X9) (fun m a b c d f g h i l s κ=>call 109 [a,b] s (fun v0 s=>bg4 v0 (.i .i64 0) 3 .geq P s (fun v1 s=>κ (X9.mk m a b c d v1 a b v0 v1) s))) x s κ
theorem bJw:RgOk P false bQt T9 bP4:=fun _ _ x _ _=>by cases x;kernel_rfl
def S118:SF X9:=(b8s (b9h P t1.fq bP5) (b8s (b9h P t1.fq bP4) bpd))
theorem c4k:Sh P t1.fq T9 bGf S118:=by
 have e:bGf=(.seq (.region 0 bQu false) (.seq (.region 1 bQt false) .ret)):=by kernel_rfl
 rw [e]
 exact (aq0 (as2 bJx) (aq0 (as2 bJw) bbf))
def A118:List FV→Option X9:=fun l=>match l with
 | [a,b]=>some (X9.mk [] a b .e .e .e .e .e .e .e)
 | _=>none
def cay:LQ:=bvx P T9 S118 [.tmp 4] 4000 A118
def cbg:LA:=ban P t1.fa 4000 118
theorem G118:Good P 118 cay cbg:=b9e all1 (by kernel_rfl) (show FT P 118=some (bGf,9,[.tmp 4]) by kernel_rfl) c4k (fun l x h=>by
  unfold A118 at h
  split at h
  ·cases h;exact ⟨by kernel_rfl,by kernel_rfl⟩
  ·cases h) 4000
inductive X25 where
 | mk (m:List Nat) (a b c d f g h i l n o p r t u w y z A B C D E F G:FV)
def T25 (x:X25):FF:=X25.rec (motive:=fun _=>FF) (fun m a b c d f g h i l n o p r t u w y z A B C D E F G=>⟨(.n a (.n b (.n g (.n D .e .e .e .e) .e .e .e) (.n n .e .e .e .e) (.n t .e .e .e .e) (.n z .e .e .e .e)) (.n c (.n h (.n E .e .e .e .e) .e .e .e) (.n o .e .e .e .e) (.n u .e .e .e .e) (.n A .e .e .e .e)) (.n d (.n i (.n F .e .e .e .e) .e .e .e) (.n p .e .e .e .e) (.n w .e .e .e .e) (.n B .e .e .e .e)) (.n f (.n l (.n G .e .e .e .e) .e .e .e) (.n r .e .e .e .e) (.n y .e .e .e .e) (.n C .e .e .e .e))),25,m⟩) x
def bly:Code:=bdx P 160
def bQe:Array Oper:=b9j (pth [0] bly)
def bOp:RG X25:=fun call yl x s κ=>X25.rec (motive:=fun _=>MO X25) (fun m a b c d f g h i l n o p r t u w y z A B C D E F G s κ=>ldV b false 1 s (fun v0 s=>bRk v0 P 25 s (fun v1 s=>κ (X25.mk m a b c d f g h v0 v1 (.i .i64 0) o p r t u w y z A B C D E F G) s))) x s κ
theorem bJh:RgOk P false bQe T25 bOp:=fun _ _ x _ _=>by cases x;kernel_rfl
def bQd:Array Oper:=b9j (pth [1,0,0,0] bly)
def bOo:RG X25:=fun call yl x s κ=>X25.rec (motive:=fun _=>MO X25) (fun m a b c d f g h i l n o p r t u w y z A B C D E F G s κ=>bg4 n l 3 .lss P s (fun v0 s=>κ (X25.mk m a b c d f g h i l n v0 p r t u w y z A B C D E F G) s)) x s κ
theorem bJg:RgOk P false bQd T25 bOo:=fun _ _ x _ _=>by cases x;kernel_rfl
def bQc:Array Oper:=b9j (pth [1,0,0,1,1,0,0,0] bly)
def bOn:RG X25:=fun call yl x s κ=>X25.rec (motive:=fun _=>MO X25) (fun m a b c d f g h i l n o p r t u w y z A B C D E F G s κ=>bqu n fun j=>iaS i j 1 s (fun v0 s=>ldV v0 false 1 s (fun v1 s=>κ (X25.mk m a b c d f v1 h i l n o v0 v1 t u w y z A B C D E F G) s))) x s κ
theorem bJf:RgOk P false bQc T25 bOn:=fun _ _ x _ _=>by cases x;kernel_rfl
def bQb:Array Oper:=b9j (pth [1,0,0,1,1,0,0,1,0] bly)
def bOm:RG X25:=fun call yl x s κ=>X25.rec (motive:=fun _=>MO X25) (fun m a b c d f g h i l n o p r t u w y z A B C D E F G s κ=>ldV c true 62 s (fun v0 s=>bsq P 48 s (fun v1 s=>stA v1 v0 62 s (fun _ s=>κ (X25.mk m a b c d f g v1 i l n o p r v0 u w y z A B C D E F G) s)))) x s κ
theorem bJe:RgOk P false bQb T25 bOm:=fun _ _ x _ _=>by cases x;kernel_rfl
def bQa:Array Oper:=b9j (pth [1,0,0,1,1,0,0,1,1,0] bly)
def bOl:RG X25:=fun call yl x s κ=>X25.rec (motive:=fun _=>MO X25) (fun m a b c d f g h i l n o p r t u w y z A B C D E F G s κ=>bgn c 29 s (fun v0 s=>ldV v0 false 1 s (fun v1 s=>call 90 [v1] s (fun v2 s=>bgn h 2 s (fun v3 s=>stA v3 g 1 s (fun _ s=>bgn h 29 s (fun v4 s=>stA v4 v2 1 s (fun _ s=>κ (X25.mk m a b c d f g h i l n o p r t g v0 v1 v2 v3 v4 C D E F G) s)))))))) x s κ
theorem bJd:RgOk P false bQa T25 bOl:=fun _ _ x _ _=>by cases x;kernel_rfl
def bQ9:Array Oper:=b9j (pth [1,0,0,1,1,0,0,1,1,1,0] bly)
def bOk:RG X25:=fun call yl x s κ=>X25.rec (motive:=fun _=>MO X25) (fun m a b c d f g h i l n o p r t u w y z A B C D E F G s κ=>ldV h true 62 s (fun v0 s=>bGd a [v0] call yl s (fun v1 s=>c8u v1 s (fun v2 s=>κ (X25.mk m a b c d f g h i l n o p r t u w y z A B a v0 v1 v2 G) s)))) x s κ
theorem bJc:RgOk P false bQ9 T25 bOk:=fun _ _ x _ _=>by cases x;kernel_rfl
def bQ8:Array Oper:=b9j (pth [1,0,0,1,1,1] bly)
def bOj:RG X25:=fun call yl x s κ=>X25.rec (motive:=fun _=>MO X25) (fun m a b c d f g h i l n o p r t u w y z A B C D E F G s κ=>bg4 n (.i .i64 1) 3 .add P s (fun v0 s=>κ (X25.mk m a b c d f g h i l v0 o p r t u w y z A B C D E F v0) s)) x s κ
theorem bJb:RgOk P false bQ8 T25 bOj:=fun _ _ x _ _=>by cases x;kernel_rfl
def S160:SF X25:=(b8s (b9h P t1.fq bOp) (bio 0 (boh (b8s (b9h P t1.fq bOo) (b8s (bh0 (fun x=>X25.rec (motive:=fun _=>FV) (fun _ _ _ _ _ _ _ _ _ _ _ z _ _ _ _ _ _ _ _ _ _ _ _ _ _=>z) x) bgg (bs9 0)) (b8s (bio 1 (b8s (b9h P t1.fq bOn) (b8s (b9h P t1.fq bOm) (b8s (b9h P t1.fq bOl) (b8s (b9h P t1.fq bOk) (bh0 (fun x=>X25.rec (motive:=fun _=>FV) (fun _ _ _ _ _ _ _ _ _ _ _ _ _ _ _ _ _ _ _ _ _ _ _ _ z _=>z) x) bpd bgg)))))) (b9h P t1.fq bOj)))))))
theorem c4h:Sh P t1.fq T25 bly S160:=by
 have e:bly=(.seq (.region 0 bQe false) (.block 0 (.loop (.seq (.region 1 bQd false) (.seq (.cond (.tmp 10) .skip (.exit 0)) (.seq (.block 1 (.seq (.region 2 bQc false) (.seq (.region 3 bQb false) (.seq (.region 4 bQa false) (.seq (.region 5 bQ9 false) (.cond (.tmp 23) .ret .skip)))))) (.region 6 bQ8 false))))))):=by kernel_rfl
 rw [e]
 exact (aq0 (as2 bJh) (bcj 0 (bft (aq0 (as2 bJg) (aq0 (bb6 (fun x=>by cases x;rfl) bb5 (bfu 0)) (aq0 (bcj 1 (aq0 (as2 bJf) (aq0 (as2 bJe) (aq0 (as2 bJd) (aq0 (as2 bJc) (bb6 (fun x=>by cases x;rfl) bbf bb5)))))) (as2 bJb)))))))
def A160:List FV→Option X25:=fun l=>match l with
 | [a,b,c]=>some (X25.mk [] a b c .e .e .e .e .e .e .e .e .e .e .e .e .e .e .e .e .e .e .e .e .e .e)
 | _=>none
def cax:LQ:=bvx P T25 S160 [] 4000 A160
def cbf:LA:=ban P t1.fa 4000 160
theorem G160:Good P 160 cax cbf:=b9e all1 (by kernel_rfl) (show FT P 160=some (bly,25,[]) by kernel_rfl) c4h (fun l x h=>by
  unfold A160 at h
  split at h
  ·cases h;exact ⟨by kernel_rfl,by kernel_rfl⟩
  ·cases h) 4000
def t2:LT:=(.n 153 c6b c6o (.n 109 c6e c6r (.n 90 L90 E90 (.n 34 L34 E34 (.n 26 L26 E26 .e .e) .e) (.n 103 caz cbh (.n 91 L91 E91 .e .e) .e)) (.n 128 c4v c54 (.n 118 cay cbg (.n 113 c6d c6q .e .e) .e) (.n 150 c6c c6p .e .e))) (.n 173 c4s c4z (.n 162 c6a c6n (.n 160 cax cbf (.n 155 c4u c52 .e .e) .e) (.n 172 c4t c50 .e .e)) (.n 193 c4q c4x (.n 181 c69 c6m (.n 180 c4r c4y .e .e) .e) (.n 211 c4p c4w .e .e))))
theorem all2:t2.all (Good P):=⟨cb9,⟨cbc,⟨G90,⟨G34,⟨G26,trivial,trivial⟩,trivial⟩,⟨G103,⟨G91,trivial,trivial⟩,trivial⟩⟩,⟨c6l,⟨G118,⟨cbb,trivial,trivial⟩,trivial⟩,⟨cba,trivial,trivial⟩⟩⟩,⟨c6i,⟨cb8,⟨G160,⟨c6k,trivial,trivial⟩,trivial⟩,⟨c6j,trivial,trivial⟩⟩,⟨c6g,⟨cb7,⟨c6h,trivial,trivial⟩,trivial⟩,⟨c6f,trivial,trivial⟩⟩⟩⟩
end
end Q
end V
end Go.CE
namespace Go.CE
namespace V
namespace Q
set_option maxRecDepth 100000
noncomputable section
variable [Sym] [avd]
inductive X35 where
 | mk (m:List Nat) (a b c d f g h i l n o p r t u w y z A B C D E F G H I J K L M N O Q R:FV)
def T35 (x:X35):FF:=X35.rec (motive:=fun _=>FF) (fun m a b c d f g h i l n o p r t u w y z A B C D E F G H I J K L M N O Q R=>⟨(.n a (.n b (.n g (.n D .e .e .e .e) .e .e .e) (.n n (.n H .e .e .e .e) .e .e .e) (.n t (.n L .e .e .e .e) .e .e .e) (.n z (.n Q .e .e .e .e) .e .e .e)) (.n c (.n h (.n E .e .e .e .e) .e .e .e) (.n o (.n I .e .e .e .e) .e .e .e) (.n u (.n M .e .e .e .e) .e .e .e) (.n A (.n R .e .e .e .e) .e .e .e)) (.n d (.n i (.n F .e .e .e .e) .e .e .e) (.n p (.n J .e .e .e .e) .e .e .e) (.n w (.n N .e .e .e .e) .e .e .e) (.n B .e .e .e .e)) (.n f (.n l (.n G .e .e .e .e) .e .e .e) (.n r (.n K .e .e .e .e) .e .e .e) (.n y (.n O .e .e .e .e) .e .e .e) (.n C .e .e .e .e))),35,m⟩) x
def bzw:Code:=bdx P 86
def c26:Array Oper:=b9j (pth [0] bzw)
def c06:RG X35:=fun call yl x s κ=>X35.rec (motive:=fun _=>MO X35) (fun m a b c d f g h i l n o p r t u w y z A B C D E F G H I J K L M N O Q R s κ=>bxV b 78 s (fun v0 s=>bsq P 48 s (fun v1 s=>κ (X35.mk m a b c v0 v1 (.i .i64 0) h i l n o p r t u w y z A B C D E F G H I J K L M N O Q R) s))) x s κ
theorem bUd:RgOk P false c26 T35 c06:=fun _ _ x _ _=>by cases x;kernel_rfl
def c22:Array Oper:=b9j (pth [1,0] bzw)
def c05:RG X35:=fun call yl x s κ=>X35.rec (motive:=fun _=>MO X35) (fun m a b c d f g h i l n o p r t u w y z A B C D E F G H I J K L M N O Q R s κ=>ldV d true 36 s (fun v0 s=>bsl P 205 [(0,a),(1,v0)] s (fun v1 s=>bxV v1 205 s (fun v2 s=>κ (X35.mk m a b c d f g v2 i l n a v0 v1 v2 u w y z A B C D E F G H I J K L M N O Q R) s)))) x s κ
theorem bUc:RgOk P false c22 T35 c05:=fun _ _ x _ _=>by cases x;kernel_rfl
def c1z:Array Oper:=b9j (pth [1,1,0,0] bzw)
def c04:RG X35:=fun call yl x s κ=>X35.rec (motive:=fun _=>MO X35) (fun m a b c d f g h i l n o p r t u w y z A B C D E F G H I J K L M N O Q R s κ=>bgt 148 [h] [] s (fun v0 s=>bgt 149 [h] [] s (fun v1 s=>bgt 150 [h] [] s (fun v2 s=>bsl P 207 [(0,v0),(1,v1),(2,v2)] s (fun v3 s=>κ (X35.mk m a b c d f g h i l n o p r t h v0 h v1 h v2 v3 (.i .i64 0) E F G H I J K L M N O Q R) s))))) x s κ
theorem bUb:RgOk P false c1z T35 c04:=fun _ _ x _ _=>by cases x;kernel_rfl
def c1y:Array Oper:=b9j (pth [1,1,0,1,0,0,0] bzw)
def c02:RG X35:=fun call yl x s κ=>X35.rec (motive:=fun _=>MO X35) (fun m a b c d f g h i l n o p r t u w y z A B C D E F G H I J K L M N O Q R s κ=>bg4 D (.i .i64 3) 3 .lss P s (fun v0 s=>κ (X35.mk m a b c d f g h i l n o p r t u w y z A B C D v0 F G H I J K L M N O Q R) s)) x s κ
theorem bUa:RgOk P false c1y T35 c02:=fun _ _ x _ _=>by cases x;kernel_rfl
def c1x:Array Oper:=b9j (pth [1,1,0,1,0,0,1,1,0,0,0] bzw)
def bZz:RG X35:=fun call yl x s κ=>X35.rec (motive:=fun _=>MO X35) (fun m a b c d f g h i l n o p r t u w y z A B C D E F G H I J K L M N O Q R s κ=>bqu D fun j=>V.iff (Nat.ble (Nat.succ j) 3) (prV C false (Nat.mul j 1) 1 s (fun v0 s=>κ (X35.mk m a b c d f g h i v0 n o p r t u w y z A B C D E v0 G H I J K L M N O Q R) s))) x s κ
theorem bU9:RgOk P false c1x T35 bZz:=fun _ _ x _ _=>by cases x;kernel_rfl
def c1w:Array Oper:=b9j (pth [1,1,0,1,0,0,1,1,0,0,1,0] bzw)
def bZy:RG X35:=fun call yl x s κ=>X35.rec (motive:=fun _=>MO X35) (fun m a b c d f g h i l n o p r t u w y z A B C D E F G H I J K L M N O Q R s κ=>bGd l [] call yl s (fun v0 s=>κ (X35.mk m a b c d f g h i l v0 o p r t u w y z A B C D E F l v0 I J K L M N O Q R) s)) x s κ
theorem bU8:RgOk P false c1w T35 bZy:=fun _ _ x _ _=>by cases x;kernel_rfl
def c1u:Array Oper:=b9j (pth [1,1,0,1,0,0,1,1,0,0,1,1,0] bzw)
def bZx:RG X35:=fun call yl x s κ=>X35.rec (motive:=fun _=>MO X35) (fun m a b c d f g h i l n o p r t u w y z A B C D E F G H I J K L M N O Q R s κ=>bg4 n (.i .i64 0) 31 .neq P s (fun v0 s=>κ (X35.mk m a b c d f g h i l n o p r t u w y z A B C D E F G H n v0 K L M N O Q R) s)) x s κ
theorem bU7:RgOk P false c1u T35 bZx:=fun _ _ x _ _=>by cases x;kernel_rfl
def c1t:Array Oper:=b9j (pth [1,1,0,1,0,0,1,1,0,0,1,1,1,0,0] bzw)
def bZw:RG X35:=fun call yl x s κ=>X35.rec (motive:=fun _=>MO X35) (fun m a b c d f g h i l n o p r t u w y z A B C D E F G H I J K L M N O Q R s κ=>bsl P 48 [] s (fun v0 s=>stA f v0 62 s (fun _ s=>κ (X35.mk m a b c d f n h i l n o p r t u w y z A B C D E F G H I J v0 n M N O Q R) s))) x s κ
theorem bU6:RgOk P false c1t T35 bZw:=fun _ _ x _ _=>by cases x;kernel_rfl
def c1s:Array Oper:=b9j (pth [1,1,0,1,0,0,1,1,1] bzw)
def bZv:RG X35:=fun call yl x s κ=>X35.rec (motive:=fun _=>MO X35) (fun m a b c d f g h i l n o p r t u w y z A B C D E F G H I J K L M N O Q R s κ=>bg4 D (.i .i64 1) 3 .add P s (fun v0 s=>κ (X35.mk m a b c d f g h i l n o p r t u w y z A B C v0 E F G H I J K L v0 N O Q R) s)) x s κ
theorem bU5:RgOk P false c1s T35 bZv:=fun _ _ x _ _=>by cases x;kernel_rfl
def c1r:Array Oper:=b9j (pth [1,1,1,0] bzw)
def bZu:RG X35:=fun call yl x s κ=>X35.rec (motive:=fun _=>MO X35) (fun m a b c d f g h i l n o p r t u w y z A B C D E F G H I J K L M N O Q R s κ=>bV0 h s (fun v0 s=>bgn v0 37 s (fun v1 s=>ldV v1 true 62 s (fun v2 s=>stA f v2 62 s (fun _ s=>κ (X35.mk m a b c d f (.i .i64 0) h i l n o p r t u w y z A B C D E F G H I J K L M h v0 v1 v2) s))))) x s κ
theorem bU4:RgOk P false c1r T35 bZu:=fun _ _ x _ _=>by cases x;kernel_rfl
def S86:SF X35:=(b8s (b9h P t2.fq c06) (b8s (b9h P t2.fq c05) (b8s (b8s (b9h P t2.fq c04) (bio 0 (boh (b8s (b9h P t2.fq c02) (b8s (bh0 (fun x=>X35.rec (motive:=fun _=>FV) (fun _ _ _ _ _ _ _ _ _ _ _ _ _ _ _ _ _ _ _ _ _ _ _ z _ _ _ _ _ _ _ _ _ _ _ _=>z) x) bgg (bs9 0)) (b8s (bio 1 (b8s (b9h P t2.fq bZz) (b8s (b9h P t2.fq bZy) (b8s (b9h P t2.fq bZx) (bh0 (fun x=>X35.rec (motive:=fun _=>FV) (fun _ _ _ _ _ _ _ _ _ _ _ _ _ _ _ _ _ _ _ _ _ _ _ _ _ _ _ _ z _ _ _ _ _ _ _=>z) x) (b8s (b9h P t2.fq bZw) bpd) bgg))))) (b9h P t2.fq bZv))))))) (b8s (b9h P t2.fq bZu) bpd))))
theorem cau:Sh P t2.fq T35 bzw S86:=by
 have e:bzw=(.seq (.region 0 c26 false) (.seq (.region 1 c22 false) (.seq (.seq (.region 2 c1z false) (.block 0 (.loop (.seq (.region 3 c1y false) (.seq (.cond (.tmp 22) .skip (.exit 0)) (.seq (.block 1 (.seq (.region 4 c1x false) (.seq (.region 5 c1w false) (.seq (.region 6 c1u false) (.cond (.tmp 27) (.seq (.region 7 c1t false) .ret) .skip))))) (.region 8 c1s false))))))) (.seq (.region 9 c1r false) .ret)))):=by kernel_rfl
 rw [e]
 exact (aq0 (as2 bUd) (aq0 (as2 bUc) (aq0 (aq0 (as2 bUb) (bcj 0 (bft (aq0 (as2 bUa) (aq0 (bb6 (fun x=>by cases x;rfl) bb5 (bfu 0)) (aq0 (bcj 1 (aq0 (as2 bU9) (aq0 (as2 bU8) (aq0 (as2 bU7) (bb6 (fun x=>by cases x;rfl) (aq0 (as2 bU6) bbf) bb5))))) (as2 bU5))))))) (aq0 (as2 bU4) bbf))))
def A86:List FV→Option X35:=fun l=>match l with
 | [a,b]=>some (X35.mk [] a b .e .e .e .e .e .e .e .e .e .e .e .e .e .e .e .e .e .e .e .e .e .e .e .e .e .e .e .e .e .e .e .e .e)
 | _=>none
def L86:LQ:=bvx P T35 S86 [.cell 4 48,.tmp 5] 4000 A86
def E86:LA:=ban P t2.fa 4000 86
theorem G86:Good P 86 L86 E86:=b9e all2 (by kernel_rfl) (show FT P 86=some (bzw,35,[.cell 4 48,.tmp 5]) by kernel_rfl) cau (fun l x h=>by
  unfold A86 at h
  split at h
  ·cases h;exact ⟨by kernel_rfl,by kernel_rfl⟩
  ·cases h) 4000
def t3:LT:=(.n 150 c6c c6p (.n 103 caz cbh (.n 86 L86 E86 (.n 34 L34 E34 (.n 26 L26 E26 .e .e) .e) (.n 91 L91 E91 (.n 90 L90 E90 .e .e) .e)) (.n 118 cay cbg (.n 113 c6d c6q (.n 109 c6e c6r .e .e) .e) (.n 128 c4v c54 .e .e))) (.n 173 c4s c4z (.n 160 cax cbf (.n 155 c4u c52 (.n 153 c6b c6o .e .e) .e) (.n 172 c4t c50 (.n 162 c6a c6n .e .e) .e)) (.n 193 c4q c4x (.n 181 c69 c6m (.n 180 c4r c4y .e .e) .e) (.n 211 c4p c4w .e .e))))
theorem all3:t3.all (Good P):=⟨cba,⟨G103,⟨G86,⟨G34,⟨G26,trivial,trivial⟩,trivial⟩,⟨G91,⟨G90,trivial,trivial⟩,trivial⟩⟩,⟨G118,⟨cbb,⟨cbc,trivial,trivial⟩,trivial⟩,⟨c6l,trivial,trivial⟩⟩⟩,⟨c6i,⟨G160,⟨c6k,⟨cb9,trivial,trivial⟩,trivial⟩,⟨c6j,⟨cb8,trivial,trivial⟩,trivial⟩⟩,⟨c6g,⟨cb7,⟨c6h,trivial,trivial⟩,trivial⟩,⟨c6f,trivial,trivial⟩⟩⟩⟩
end
end Q
end V
end Go.CE
namespace Go.CE
namespace V
namespace Q
variable [Sym] [avd]
noncomputable def tL:LT:=t3
theorem allL:tL.all (Good P):=all3
end Q
end V
end Go.CE
