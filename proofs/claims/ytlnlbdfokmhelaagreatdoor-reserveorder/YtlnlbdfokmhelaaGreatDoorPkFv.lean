/-
  The quick evaluator: values, trees, memory. The kernel reduces these in few steps.
-/
import Derived.Test.YtlnlbdfokmhelaaGreatDoorPkCeOne
import Derived.Test.YtlnlbdfokmhelaaGreatDoorPkCeTwo
set_option linter.unusedSectionVars false
set_option linter.constructorNameAsVariable false
set_option linter.unusedVariables false
set_option linter.unusedSimpArgs false
namespace Go.CE
inductive P4 where
 | e
 | a (p:P4)
 | b (p:P4)
 | c (p:P4)
 | d (p:P4)
inductive FV where
 | i (k:IntKind) (n:Nat)
 | b (v:Bool)
 | p (q:P4) (k o:Nat)
 | s (q:P4) (k o n c:Nat)
 | o (v:AV)
 | w (v:AV)
 | g (t:FV) (n:Nat)
 | t (t:FV) (n:Nat)
 | e
 | n (x a b c d:FV)
noncomputable def p4s (ih:Nat→P4) (p:Nat):P4 :=
 Nat.rec (motive:=fun _=>P4) (.a (ih (Nat.div p 4))) (fun m _=>Nat.rec (motive:=fun _=>P4) (.b (ih (Nat.div p 4))) (fun m _=>Nat.rec (motive:=fun _=>P4) (.c (ih (Nat.div p 4))) (fun _ _=>.d (ih (Nat.div p 4))) m) m) (Nat.mod p 4)
noncomputable def p4f (q k:Nat):P4 :=
 Nat.rec (motive:=fun _=>Nat→P4) (fun _=>.e) (fun _ ih k=>Nat.rec (motive:=fun _=>P4) .e (fun p _=>p4s ih p) k) q k
noncomputable def p4 (k:Nat):P4:=p4f k k
noncomputable def ga (t:FV) (ih:FV→FV):FV:=FV.rec (motive:=fun _=>(FV→FV)→FV) (fun _ _=>fun ih=>ih .e) (fun _=>fun ih=>ih .e) (fun _ _ _=>fun ih=>ih .e) (fun _ _ _ _ _=>fun ih=>ih .e) (fun _=>fun ih=>ih .e) (fun _=>fun ih=>ih .e) (fun _ _ _=>fun ih=>ih .e) (fun _ _ _=>fun ih=>ih .e) (fun ih=>ih .e) (fun x a b c d _ _ _ _ _=>(fun x a b c d ih=>ih a) x a b c d) t ih
noncomputable def gb (t:FV) (ih:FV→FV):FV:=FV.rec (motive:=fun _=>(FV→FV)→FV) (fun _ _=>fun ih=>ih .e) (fun _=>fun ih=>ih .e) (fun _ _ _=>fun ih=>ih .e) (fun _ _ _ _ _=>fun ih=>ih .e) (fun _=>fun ih=>ih .e) (fun _=>fun ih=>ih .e) (fun _ _ _=>fun ih=>ih .e) (fun _ _ _=>fun ih=>ih .e) (fun ih=>ih .e) (fun x a b c d _ _ _ _ _=>(fun x a b c d ih=>ih b) x a b c d) t ih
noncomputable def gc (t:FV) (ih:FV→FV):FV:=FV.rec (motive:=fun _=>(FV→FV)→FV) (fun _ _=>fun ih=>ih .e) (fun _=>fun ih=>ih .e) (fun _ _ _=>fun ih=>ih .e) (fun _ _ _ _ _=>fun ih=>ih .e) (fun _=>fun ih=>ih .e) (fun _=>fun ih=>ih .e) (fun _ _ _=>fun ih=>ih .e) (fun _ _ _=>fun ih=>ih .e) (fun ih=>ih .e) (fun x a b c d _ _ _ _ _=>(fun x a b c d ih=>ih c) x a b c d) t ih
noncomputable def gd (t:FV) (ih:FV→FV):FV:=FV.rec (motive:=fun _=>(FV→FV)→FV) (fun _ _=>fun ih=>ih .e) (fun _=>fun ih=>ih .e) (fun _ _ _=>fun ih=>ih .e) (fun _ _ _ _ _=>fun ih=>ih .e) (fun _=>fun ih=>ih .e) (fun _=>fun ih=>ih .e) (fun _ _ _=>fun ih=>ih .e) (fun _ _ _=>fun ih=>ih .e) (fun ih=>ih .e) (fun x a b c d _ _ _ _ _=>(fun x a b c d ih=>ih d) x a b c d) t ih
noncomputable def c9s (t:FV):FV:=FV.rec (motive:=fun _=>FV) (fun _ _=>.e) (fun _=>.e) (fun _ _ _=>.e) (fun _ _ _ _ _=>.e) (fun _=>.e) (fun _=>.e) (fun _ _ _=>.e) (fun _ _ _=>.e) (.e) (fun x a b c d _ _ _ _ _=>(fun x a b c d=>x) x a b c d) t
noncomputable def aRb (p:P4) (t:FV):FV:=P4.rec (motive:=fun _=>FV→FV) c9s (fun _ ih t=>ga t ih) (fun _ ih t=>gb t ih) (fun _ ih t=>gc t ih) (fun _ ih t=>gd t ih) p t
noncomputable def sa (t:FV) (ih:FV→FV→FV) (v:FV):FV:=FV.rec (motive:=fun _=>(FV→FV→FV)→FV→FV) (fun _ _=>fun ih v=>.n .e (ih v .e) .e .e .e) (fun v=>fun ih v=>.n .e (ih v .e) .e .e .e) (fun _ _ _=>fun ih v=>.n .e (ih v .e) .e .e .e) (fun _ _ _ _ _=>fun ih v=>.n .e (ih v .e) .e .e .e) (fun v=>fun ih v=>.n .e (ih v .e) .e .e .e) (fun v=>fun ih v=>.n .e (ih v .e) .e .e .e) (fun _ _ _=>fun ih v=>.n .e (ih v .e) .e .e .e) (fun _ _ _=>fun ih v=>.n .e (ih v .e) .e .e .e) (fun ih v=>.n .e (ih v .e) .e .e .e) (fun x a b c d _ _ _ _ _=>(fun x a b c d ih v=>.n x (ih v a) b c d) x a b c d) t ih v
noncomputable def sb (t:FV) (ih:FV→FV→FV) (v:FV):FV:=FV.rec (motive:=fun _=>(FV→FV→FV)→FV→FV) (fun _ _=>fun ih v=>.n .e .e (ih v .e) .e .e) (fun v=>fun ih v=>.n .e .e (ih v .e) .e .e) (fun _ _ _=>fun ih v=>.n .e .e (ih v .e) .e .e) (fun _ _ _ _ _=>fun ih v=>.n .e .e (ih v .e) .e .e) (fun v=>fun ih v=>.n .e .e (ih v .e) .e .e) (fun v=>fun ih v=>.n .e .e (ih v .e) .e .e) (fun _ _ _=>fun ih v=>.n .e .e (ih v .e) .e .e) (fun _ _ _=>fun ih v=>.n .e .e (ih v .e) .e .e) (fun ih v=>.n .e .e (ih v .e) .e .e) (fun x a b c d _ _ _ _ _=>(fun x a b c d ih v=>.n x a (ih v b) c d) x a b c d) t ih v
noncomputable def sc4 (t:FV) (ih:FV→FV→FV) (v:FV):FV:=FV.rec (motive:=fun _=>(FV→FV→FV)→FV→FV) (fun _ _=>fun ih v=>.n .e .e .e (ih v .e) .e) (fun v=>fun ih v=>.n .e .e .e (ih v .e) .e) (fun _ _ _=>fun ih v=>.n .e .e .e (ih v .e) .e) (fun _ _ _ _ _=>fun ih v=>.n .e .e .e (ih v .e) .e) (fun v=>fun ih v=>.n .e .e .e (ih v .e) .e) (fun v=>fun ih v=>.n .e .e .e (ih v .e) .e) (fun _ _ _=>fun ih v=>.n .e .e .e (ih v .e) .e) (fun _ _ _=>fun ih v=>.n .e .e .e (ih v .e) .e) (fun ih v=>.n .e .e .e (ih v .e) .e) (fun x a b c d _ _ _ _ _=>(fun x a b c d ih v=>.n x a b (ih v c) d) x a b c d) t ih v
noncomputable def sd (t:FV) (ih:FV→FV→FV) (v:FV):FV:=FV.rec (motive:=fun _=>(FV→FV→FV)→FV→FV) (fun _ _=>fun ih v=>.n .e .e .e .e (ih v .e)) (fun v=>fun ih v=>.n .e .e .e .e (ih v .e)) (fun _ _ _=>fun ih v=>.n .e .e .e .e (ih v .e)) (fun _ _ _ _ _=>fun ih v=>.n .e .e .e .e (ih v .e)) (fun v=>fun ih v=>.n .e .e .e .e (ih v .e)) (fun v=>fun ih v=>.n .e .e .e .e (ih v .e)) (fun _ _ _=>fun ih v=>.n .e .e .e .e (ih v .e)) (fun _ _ _=>fun ih v=>.n .e .e .e .e (ih v .e)) (fun ih v=>.n .e .e .e .e (ih v .e)) (fun x a b c d _ _ _ _ _=>(fun x a b c d ih v=>.n x a b c (ih v d)) x a b c d) t ih v
noncomputable def c7f (v t:FV):FV:=FV.rec (motive:=fun _=>FV→FV) (fun _ _=>fun v=>.n v .e .e .e .e) (fun v=>fun v=>.n v .e .e .e .e) (fun _ _ _=>fun v=>.n v .e .e .e .e) (fun _ _ _ _ _=>fun v=>.n v .e .e .e .e) (fun v=>fun v=>.n v .e .e .e .e) (fun v=>fun v=>.n v .e .e .e .e) (fun _ _ _=>fun v=>.n v .e .e .e .e) (fun _ _ _=>fun v=>.n v .e .e .e .e) (fun v=>.n v .e .e .e .e) (fun x a b c d _ _ _ _ _=>(fun x a b c d v=>.n v a b c d) x a b c d) t v
noncomputable def bg8 (p:P4) (v t:FV):FV:=P4.rec (motive:=fun _=>FV→FV→FV) c7f (fun _ ih v t=>sa t ih v) (fun _ ih v t=>sb t ih v) (fun _ ih v t=>sc4 t ih v) (fun _ ih v t=>sd t ih v) p v t
structure FF where
 t:FV
 nt:Nat
 mks:List Nat
inductive FB where
 | no
 | cells (t:FV) (n T:Nat)
 | map (es:List (AV×AV×Nat)) (clock:Nat)
 | loop (fr:FF) (ps:List Nat) (asg body:Code) (st:LS)
 | dfr
inductive FM where
 | e
 | n (x:FB) (a b c d:FM)
structure QW where
 m:FM
 nx:Nat
 base:Nat
 lg:List LE
 wl:List LE
noncomputable def mga (t:FM) (ih:FM→FB):FB:=FM.rec (motive:=fun _=>(FM→FB)→FB) (fun ih=>ih .e) (fun _ a b c d _ _ _ _ ih=>ih a) t ih
noncomputable def msa (t:FM) (ih:FB→FM→FM) (v:FB):FM:=FM.rec (motive:=fun _=>(FB→FM→FM)→FB→FM) (fun ih v=>.n .no (ih v .e) .e .e .e) (fun x a b c d _ _ _ _ ih v=>.n x (ih v a) b c d) t ih v
noncomputable def mgb (t:FM) (ih:FM→FB):FB:=FM.rec (motive:=fun _=>(FM→FB)→FB) (fun ih=>ih .e) (fun _ a b c d _ _ _ _ ih=>ih b) t ih
noncomputable def msb (t:FM) (ih:FB→FM→FM) (v:FB):FM:=FM.rec (motive:=fun _=>(FB→FM→FM)→FB→FM) (fun ih v=>.n .no .e (ih v .e) .e .e) (fun x a b c d _ _ _ _ ih v=>.n x a (ih v b) c d) t ih v
noncomputable def mgc (t:FM) (ih:FM→FB):FB:=FM.rec (motive:=fun _=>(FM→FB)→FB) (fun ih=>ih .e) (fun _ a b c d _ _ _ _ ih=>ih c) t ih
noncomputable def msc (t:FM) (ih:FB→FM→FM) (v:FB):FM:=FM.rec (motive:=fun _=>(FB→FM→FM)→FB→FM) (fun ih v=>.n .no .e .e (ih v .e) .e) (fun x a b c d _ _ _ _ ih v=>.n x a b (ih v c) d) t ih v
noncomputable def mgd (t:FM) (ih:FM→FB):FB:=FM.rec (motive:=fun _=>(FM→FB)→FB) (fun ih=>ih .e) (fun _ a b c d _ _ _ _ ih=>ih d) t ih
noncomputable def msd (t:FM) (ih:FB→FM→FM) (v:FB):FM:=FM.rec (motive:=fun _=>(FB→FM→FM)→FB→FM) (fun ih v=>.n .no .e .e .e (ih v .e)) (fun x a b c d _ _ _ _ ih v=>.n x a b c (ih v d)) t ih v
noncomputable def c2d (t:FM):FB:=FM.rec (motive:=fun _=>FB) .no (fun x _ _ _ _ _ _ _ _=>x) t
noncomputable def c2b (v:FB) (t:FM):FM:=FM.rec (motive:=fun _=>FB→FM) (fun v=>.n v .e .e .e .e) (fun _ a b c d _ _ _ _ v=>.n v a b c d) t v
noncomputable def getM (p:P4) (t:FM):FB:=P4.rec (motive:=fun _=>FM→FB) c2d (fun _ ih t=>mga t ih) (fun _ ih t=>mgb t ih) (fun _ ih t=>mgc t ih) (fun _ ih t=>mgd t ih) p t
noncomputable def bir (p:P4) (v:FB) (t:FM):FM:=P4.rec (motive:=fun _=>FB→FM→FM) c2b (fun _ ih v t=>msa t ih v) (fun _ ih v t=>msb t ih v) (fun _ ih v t=>msc t ih v) (fun _ ih v t=>msd t ih v) p v t
end Go.CE
namespace Go.CE
theorem bi7 (p:P4):aRb p .e=.e:=by
 induction p with
 | e=>rfl
 | a p ih=>exact ih
 | b p ih=>exact ih
 | c p ih=>exact ih
 | d p ih=>exact ih
theorem bxc (q:P4):∀ (t v:FV),aRb q (bg8 q v t)=v:=by
 induction q with
 | e=>intro t v;cases t<;>rfl
 | a q ih=>intro t v;cases t<;>exact ih _ v
 | b q ih=>intro t v;cases t<;>exact ih _ v
 | c q ih=>intro t v;cases t<;>exact ih _ v
 | d q ih=>intro t v;cases t<;>exact ih _ v
theorem bko (q:P4):∀ (p:P4) (t v:FV),p≠q→aRb p (bg8 q v t)=aRb p t:=by
 induction q with
 | e=>intro p t v h;cases p<;>first | exact absurd rfl h | (cases t<;>first | rfl | exact bi7 _)
 | a q ih=>intro p t v h;cases p with
  | a p=>cases t<;>first | exact ih p _ v (fun e=>h (e ▸ rfl)) | exact (ih p _ v (fun e=>h (e ▸ rfl))).trans (bi7 _)
  | _=>cases t<;>rfl
 | b q ih=>intro p t v h;cases p with
  | b p=>cases t<;>first | exact ih p _ v (fun e=>h (e ▸ rfl)) | exact (ih p _ v (fun e=>h (e ▸ rfl))).trans (bi7 _)
  | _=>cases t<;>rfl
 | c q ih=>intro p t v h;cases p with
  | c p=>cases t<;>first | exact ih p _ v (fun e=>h (e ▸ rfl)) | exact (ih p _ v (fun e=>h (e ▸ rfl))).trans (bi7 _)
  | _=>cases t<;>rfl
 | d q ih=>intro p t v h;cases p with
  | d p=>cases t<;>first | exact ih p _ v (fun e=>h (e ▸ rfl)) | exact (ih p _ v (fun e=>h (e ▸ rfl))).trans (bi7 _)
  | _=>cases t<;>rfl
theorem bi8 (p:P4):getM p .e=.no:=by
 induction p with
 | e=>rfl
 | a p ih=>exact ih
 | b p ih=>exact ih
 | c p ih=>exact ih
 | d p ih=>exact ih
theorem bxd (q:P4):∀ (t:FM) (v:FB),getM q (bir q v t)=v:=by
 induction q with
 | e=>intro t v;cases t<;>rfl
 | a q ih=>intro t v;cases t<;>exact ih _ v
 | b q ih=>intro t v;cases t<;>exact ih _ v
 | c q ih=>intro t v;cases t<;>exact ih _ v
 | d q ih=>intro t v;cases t<;>exact ih _ v
theorem bkp (q:P4):∀ (p:P4) (t:FM) (v:FB),p≠q→getM p (bir q v t)=getM p t:=by
 induction q with
 | e=>intro p t v h;cases p<;>first | exact absurd rfl h | (cases t<;>first | rfl | exact bi8 _)
 | a q ih=>intro p t v h;cases p with
  | a p=>cases t<;>first | exact ih p _ v (fun e=>h (e ▸ rfl)) | exact (ih p _ v (fun e=>h (e ▸ rfl))).trans (bi8 _)
  | _=>cases t<;>rfl
 | b q ih=>intro p t v h;cases p with
  | b p=>cases t<;>first | exact ih p _ v (fun e=>h (e ▸ rfl)) | exact (ih p _ v (fun e=>h (e ▸ rfl))).trans (bi8 _)
  | _=>cases t<;>rfl
 | c q ih=>intro p t v h;cases p with
  | c p=>cases t<;>first | exact ih p _ v (fun e=>h (e ▸ rfl)) | exact (ih p _ v (fun e=>h (e ▸ rfl))).trans (bi8 _)
  | _=>cases t<;>rfl
 | d q ih=>intro p t v h;cases p with
  | d p=>cases t<;>first | exact ih p _ v (fun e=>h (e ▸ rfl)) | exact (ih p _ v (fun e=>h (e ▸ rfl))).trans (bi8 _)
  | _=>cases t<;>rfl
def un:P4→Nat
 | .e=>0
 | .a p=>4 * un p+1
 | .b p=>4 * un p+2
 | .c p=>4 * un p+3
 | .d p=>4 * un p+4
theorem bY5 (ih:Nat→P4) (p:Nat) (h:un (ih (p / 4))=p / 4):un (p4s ih p)=p+1:=by
 have e:Nat.div p 4=p / 4:=rfl
 have e':Nat.mod p 4=p % 4:=rfl
 unfold p4s
 rw [e,e']
 have:p % 4 < 4:=Nat.mod_lt _ (by decide)
 match hm:p % 4 with
 | 0=>show 4 * un (ih (p / 4))+1=p+1;omega
 | 1=>show 4 * un (ih (p / 4))+2=p+1;omega
 | 2=>show 4 * un (ih (p / 4))+3=p+1;omega
 | m+3=>show 4 * un (ih (p / 4))+4=p+1;omega
theorem bNt:∀ (q k:Nat),k≤q→un (p4f q k)=k
 | 0,k,h=>by
         have:k=0:=by omega
         subst this;rfl
 | q+1,0,h=>rfl
 | q+1,p+1,h=>bY5 (p4f q) p (bNt q (p / 4) (by omega))
theorem bY6 (k:Nat):un (p4 k)=k:=bNt k k (Nat.le_refl k)
theorem bL6 {j k:Nat} (h:j≠k):p4 j≠p4 k:=fun e=>h (by rw [← bY6 j,← bY6 k,e])
end Go.CE
namespace Go.CE
def ba7:FV→Prop
 | .i _ _ | .b _=>True
 | .p q k _=>q=p4 k
 | .s q k _ _ _=>q=p4 k
 | .o v=>sc v=true
 | _=>False
def bbo:FV→AV
 | .i k n=>.i k (.ofNat n)
 | .b v=>.b v
 | .p _ k o=>.p (some (k,o))
 | .s _ k o n c=>.sl (some (k,o)) n c
 | .o v=>v
 | _=>.u
noncomputable def ajn (t:FV) (o n:Nat):List AV:=(List.range n).map fun j=>bbo (aRb (p4 (o+j)) t)
noncomputable def bfc:FV→AV
 | .g t n=>.g (ajn t 0 n)
 | .w v=>v
 | v=>bbo v
noncomputable def b8x:FV→AV
 | .t t n=>.t ((List.range n).map fun j=>bfc (aRb (p4 j) t))
 | v=>bfc v
def b9f (t:FV) (n:Nat):Prop:=∀ j,j < n→ba7 (aRb (p4 j) t)
def okG:FV→Prop
 | .g t n=>b9f t n
 | .w v=>sc v=false
 | .e=>True
 | .t _ _ | .n _ _ _ _ _=>False
 | v=>ba7 v
def okV:FV→Prop
 | .t t n=>∀ j,j < n→okG (aRb (p4 j) t)
 | v=>okG v
theorem btk:∀ {v:FV},ba7 v→sc (bbo v)=true
 | .i _ _,_=>rfl
 | .b _,_=>rfl
 | .p _ _ _,_=>rfl
 | .s _ _ _ _ _,_=>rfl
 | .o _,h=>h
noncomputable def mkT (l:List FV) (j:Nat):FV:=List.rec (motive:=fun _=>Nat→FV) (fun _=>.e) (fun v _ ih j=>bg8 (p4 j) v (ih (Nat.succ j))) l j
def ofI (k:IntKind):Int→FV
 | .ofNat n=>.i k n
 | .negSucc n=>.o (.i k (.negSucc n))
noncomputable def of0:AV→FV
 | .b v=>.b v
 | .i k n=>ofI k n
 | .p (some (k,o))=>.p (p4 k) k o
 | .sl (some (k,o)) n c=>.s (p4 k) k o n c
 | v=>.o v
noncomputable def ofG:AV→FV
 | .g cs=>match aRg cs with
  | true=>.g (mkT (cs.map of0) 0) cs.length
  | false=>.w (.g cs)
 | .t vs=>.w (.t vs)
 | .u=>.e
 | .bad=>.w .bad
 | v=>of0 v
noncomputable def ofV:AV→FV
 | .t vs=>.t (mkT (vs.map ofG) 0) vs.length
 | v=>ofG v
structure RF (a:Fr) (f:FF):Prop where
 nt:a.nt=f.nt
 mks:a.mks=f.mks
 slot:∀ k,a.at k=b8x (aRb (p4 k) f.t)∧okV (aRb (p4 k) f.t)
inductive RB:Option AB→FB→Prop where
 | no:RB none .no
 | cells (t:FV) (n T:Nat):b9f t n→RB (some (.cells (ajn t 0 n) T)) (.cells t n T)
 | map (es:List (AV×AV×Nat)) (c:Nat):RB (some (.map es c)) (.map es c)
 | loop (a:Fr) (f:FF) (ps:List Nat) (x y:Code) (st:LS):RF a f→RB (some (.loop a ps x y st)) (.loop f ps x y st)
 | dfr:RB (some .dfr) .dfr
def CL (B:Nat) (l q:List LE):Prop:=∀ e∈l,B≤e.k∨e∈q
structure RS (B:Nat) (s:St) (f:QW):Prop where
 nx:s.nx=f.nx
 base:f.base=B
 low:B≤2 * s.nx
 lg:CL B s.lg f.lg
 wl:CL B s.wl f.wl
 m:∀ k,RB (s.mem.get k) (getM (p4 k) f.m)
 bd:∀ e∈s.lg,e.k < 2 * s.nx
 bw:∀ e∈s.wl,e.k < 2 * s.nx
 mb:∀ k x,s.mem.get k=some x→k < 2 * s.nx
end Go.CE
namespace Go.CE
namespace V
variable [Sym]
abbrev Ans:=Option (FV×QW)
abbrev KV:=FV→QW→Ans
abbrev KF:=FF→QW→Ans
abbrev KE:=Ex→FF→QW→Ans
abbrev CF:=Nat→List FV→QW→KV→Ans
structure Cx where
 P:Program
 call:CF
 yl:CF
 ops:List Oper
noncomputable def oT1 (t:FV) (_:Nat) (_:List Nat) (i:Nat):FV:=aRb (p4 i) t
noncomputable def oT (i:Nat) (fr:FF):FV:=FF.rec (motive:=fun _=>Nat→FV) oT1 fr i
noncomputable def oK (v:Value) (_:FF):FV:=ofV (conv v)
noncomputable def oG1 (i:Nat):FV:=Bool.rec (motive:=fun _=>FV) (.w .bad) (.p (p4 (Nat.mul 2 i)) (Nat.mul 2 i) 0) (Nat.ble (Nat.succ i) 512)
noncomputable def oG (i:Nat) (_:FF):FV:=oG1 i
noncomputable def oFn (f:Nat) (_:FF):FV:=.o (.f f [] [])
noncomputable def oV (x:Operand) (fr:FF):FV:=Operand.rec (motive:=fun _=>FF→FV) oT oK oG oFn x fr
noncomputable def strict (f:Nat→Ans) (n:Nat):Ans:=Nat.rec (motive:=fun _=>Ans) (f 0) (fun i _=>f (Nat.succ i)) n
noncomputable def iff (b:Bool) (x:Ans):Ans:=Bool.rec (motive:=fun _=>Ans) none x b
noncomputable def bXh (b:Bool):Bool:=Bool.rec (motive:=fun _=>Bool) true false b
noncomputable def opt {α:Type} (o:Option α) (f:α→Ans):Ans:=Option.rec (motive:=fun _=>Ans) none f o
noncomputable def kN (k:IntKind):Nat:=IntKind.rec (motive:=fun _=>Nat) 0 1 2 3 4 5 6 7 k
noncomputable def ikF (j k:IntKind):Bool:=Nat.beq (kN j) (kN k)
noncomputable def wrS (k:IntKind) (n:Nat):FV:=ofI k (IntKind.wrap k (Int.ofNat n))
noncomputable def wr64 (n:Nat):FV:=Bool.rec (motive:=fun _=>FV) (wrS .i64 n) (.i .i64 n) (Nat.ble n 9223372036854775807)
noncomputable def bAk (k:IntKind) (n:Nat):FV:=IntKind.rec (motive:=fun _=>Nat→FV) (wrS .i8) (wrS .i16) (wrS .i32) wr64 (fun n=>.i .u8 (Nat.mod n 256)) (fun n=>.i .u16 (Nat.mod n 65536)) (fun n=>.i .u32 (Nat.mod n 4294967296)) (fun n=>.i .u64 (Nat.mod n 18446744073709551616)) k n
abbrev BT:=Nat→BinOp→Program→QW→KV→Ans
noncomputable def bp5 (x y:FV):BT:=fun t op P s k=>opt (bAd P op t (b8x x) (b8x y)) fun v=>k (ofV v) s
abbrev IT:=IntKind→Nat→IntKind→Nat→Nat→Program→QW→KV→Ans
noncomputable def bSl (op:BinOp):IT:=fun j a k b t P s kk=>bp5 (.i j a) (.i k b) t op P s kk
noncomputable def bN (f:Nat→Nat→Nat):IT:=fun j a k b _ _ s kk=>iff (ikF j k) (kk (bAk j (f a b)) s)
noncomputable def bSub:IT:=fun j a k b t P s kk=>Bool.rec (motive:=fun _=>Ans) (bSl .sub j a k b t P s kk) (bN Nat.sub j a k b t P s kk) (Nat.ble b a)
noncomputable def bQuo:IT:=fun j a k b t P s kk=>Bool.rec (motive:=fun _=>Ans) (bN Nat.div j a k b t P s kk) none (Nat.beq b 0)
noncomputable def bRem:IT:=fun j a k b _ _ s kk=>Bool.rec (motive:=fun _=>Ans) (iff (ikF j k) (kk (.i j (Nat.mod a b)) s)) none (Nat.beq b 0)
noncomputable def mxN (j:IntKind):Nat:=j.max.toNat
noncomputable def bNc (j:IntKind):Nat:=j.bits
noncomputable def c66 (f:Nat→Nat→Nat):IT:=fun j a k b _ _ s kk=>iff (ikF j k) (iff (Nat.ble a (mxN j)) (iff (Nat.ble b (mxN j)) (kk (.i j (f a b)) s)))
noncomputable def bwy (a b:Nat):Nat:=Bool.rec (motive:=fun _=>Nat) b a (Nat.ble a b)
noncomputable def bShl:IT:=fun j a _ b _ _ s kk=>kk (bAk j (Nat.mul a (Nat.pow 2 (bwy b (bNc j))))) s
noncomputable def bShr:IT:=fun j a _ b _ _ s kk=>kk (.i j (Nat.div a (Nat.pow 2 (bwy b (bNc j))))) s
noncomputable def bC (f:Nat→Nat→Bool):IT:=fun j a k b _ _ s kk=>iff (ikF j k) (kk (.b (f a b)) s)
noncomputable def cae (a b:Nat):Bool:=bXh (Nat.ble b a)
noncomputable def caf (a b:Nat):Bool:=bXh (Nat.ble a b)
noncomputable def cGeq (a b:Nat):Bool:=Nat.ble b a
noncomputable def cad (a b:Nat):Bool:=bXh (Nat.beq a b)
noncomputable def bI2 (k:IntKind) (b:Nat) (j:IntKind) (a:Nat):BT:=fun t op P s kk =>
 BinOp.rec (motive:=fun _=>IT) (bN Nat.add) bSub (bN Nat.mul) bQuo bRem (c66 Nat.land) (c66 Nat.lor) (c66 Nat.xor) bShl bShr (bSl .andNot) (bC Nat.beq) (bC cad) (bC cae) (bC Nat.ble) (bC caf) (bC cGeq) op j a k b t P s kk
noncomputable def bI1 (j:IntKind) (a:Nat) (y:FV):BT:=fun t op P s kk =>
 FV.rec (motive:=fun _=>IntKind→Nat→BT) bI2 (fun v=>fun jj aa=>bp5 (.i jj aa) (FV.b v)) (fun q k o=>fun jj aa=>bp5 (.i jj aa) (FV.p q k o)) (fun q k o n c=>fun jj aa=>bp5 (.i jj aa) (FV.s q k o n c)) (fun v=>fun jj aa=>bp5 (.i jj aa) (FV.o v)) (fun v=>fun jj aa=>bp5 (.i jj aa) (FV.w v)) (fun t n _=>fun jj aa=>bp5 (.i jj aa) (FV.g t n)) (fun t n _=>fun jj aa=>bp5 (.i jj aa) (FV.t t n)) (fun jj aa=>bp5 (.i jj aa) (FV.e)) (fun x a b c d _ _ _ _ _=>fun jj aa=>bp5 (.i jj aa) (FV.n x a b c d)) y j a t op P s kk
noncomputable def bg4 (x y:FV):BT:=fun t op P s kk=>FV.rec (motive:=fun _=>FV→BT) bI1 (fun v=>fun y=>bp5 (FV.b v) y) (fun q k o=>fun y=>bp5 (FV.p q k o) y) (fun q k o n c=>fun y=>bp5 (FV.s q k o n c) y) (fun v=>fun y=>bp5 (FV.o v) y) (fun v=>fun y=>bp5 (FV.w v) y) (fun t n _=>fun y=>bp5 (FV.g t n) y) (fun t n _=>fun y=>bp5 (FV.t t n) y) (fun y=>bp5 (FV.e) y) (fun x a b c d _ _ _ _ _=>fun y=>bp5 (FV.n x a b c d) y) x y t op P s kk
abbrev OpC:=Cx→FF→QW→KV→Ans
def hi0:Nat:=0
def hi1:Nat:=hi0
def hi2:Nat:=hi1
def hi3:Nat:=hi2
def hi4:Nat:=hi3
def hi5:Nat:=hi4
def hi6:Nat:=hi5
def hi7:Nat:=hi6
def hi8:Nat:=hi7
def hi9:Nat:=hi8
def hi10:Nat:=hi9
def hi11:Nat:=hi10
def hi12:Nat:=hi11
def hi13:Nat:=hi12
def hi14:Nat:=hi13
def hi15:Nat:=hi14
def hi16:Nat:=hi15
def hi17:Nat:=hi16
def hi18:Nat:=hi17
def hi19:Nat:=hi18
def hi20:Nat:=hi19
def hi21:Nat:=hi20
def hi22:Nat:=hi21
def hi23:Nat:=hi22
def hi24:Nat:=hi23
def hi25:Nat:=hi24
def hi26:Nat:=hi25
def hi27:Nat:=hi26
def hi28:Nat:=hi27
def hi29:Nat:=hi28
def hi30:Nat:=hi29
def hi31:Nat:=hi30
def hi32:Nat:=hi31
def hi33:Nat:=hi32
def hi34:Nat:=hi33
def hi35:Nat:=hi34
def hi36:Nat:=hi35
def hi37:Nat:=hi36
def hi38:Nat:=hi37
def hi39:Nat:=hi38
def hi40:Nat:=hi39
def hi41:Nat:=hi40
def hi42:Nat:=hi41
def hi43:Nat:=hi42
def hi44:Nat:=hi43
def hi45:Nat:=hi44
def hi46:Nat:=hi45
def hi47:Nat:=hi46
def hi48:Nat:=hi47
def hi49:Nat:=hi48
def hi50:Nat:=hi49
def hi51:Nat:=hi50
def hi52:Nat:=hi51
def hi53:Nat:=hi52
def hi54:Nat:=hi53
def hi55:Nat:=hi54
def hi56:Nat:=hi55
def hi57:Nat:=hi56
def hi58:Nat:=hi57
def hi59:Nat:=hi58
def c9m:Nat:=hi59
noncomputable def bnk (f:KV→Ans) (k:KV):Ans:=f k
noncomputable def bfh (v:FV) (y n:Ans):Ans:=FV.rec (motive:=fun _=>Ans→Ans→Ans) (fun _ _=>fun _ _=>none) (fun v y n=>Bool.rec (motive:=fun _=>Ans) n y v) (fun _ _ _=>fun _ _=>none) (fun _ _ _ _ _=>fun _ _=>none) (fun _=>fun _ _=>none) (fun _=>fun _ _=>none) (fun _ _ _=>fun _ _=>none) (fun _ _ _=>fun _ _=>none) (fun _ _=>none) (fun _ _ _ _ _ _ _ _ _ _=>fun _ _=>none) v y n
noncomputable def bXx (x:Operand):OpC:=fun _ fr s k=>(fun (_:Nat)=>k (oV x fr) s) c9m
noncomputable def bS8 (x a b:Operand):OpC:=fun _ fr s k=>bnk (fun k=>bfh (oV x fr) (k (oV a fr) s) (k (oV b fr) s)) k
noncomputable def yBin (op:BinOp) (t:Nat) (x y:Operand) (_:Nat):OpC:=fun c fr s k=>bg4 (oV x fr) (oV y fr) t op c.P s k
noncomputable def unS (op:UnOp) (v:FV) (s:QW) (k:KV):Ans:=opt (unA op (b8x v)) fun v=>k (ofV v) s
noncomputable def c8u (v:FV) (s:QW) (k:KV):Ans:=FV.rec (motive:=fun _=>QW→KV→Ans) (fun _ _=>fun _ _=>none) (fun v s k=>k (.b (bXh v)) s) (fun _ _ _=>fun _ _=>none) (fun _ _ _ _ _=>fun _ _=>none) (fun _=>fun _ _=>none) (fun _=>fun _ _=>none) (fun _ _ _=>fun _ _=>none) (fun _ _ _=>fun _ _=>none) (fun _ _=>none) (fun _ _ _ _ _ _ _ _ _ _=>fun _ _=>none) v s k
noncomputable def yUn (op:UnOp) (_:Nat) (x:Operand):OpC:=fun _ fr s k=>UnOp.rec (motive:=fun _=>FV→QW→KV→Ans) (unS .neg) (unS .xor) c8u (unS .plus) op (oV x fr) s k
noncomputable def bf5 (base k:Nat) (e:LE) (l:List LE):List LE:=Bool.rec (motive:=fun _=>List LE) (e :: l) l (Nat.ble base k)
noncomputable def exT (t:FV) (o n:Nat):FV:=Nat.rec (motive:=fun _=>FV) .e (fun j ih=>bg8 (p4 j) (aRb (p4 (Nat.add o j)) t) ih) n
noncomputable def bI9 (t:FV) (o n:Nat):FV:=Bool.rec (motive:=fun _=>FV) (exT t o n) t (Nat.beq o 0)
noncomputable def ovT (t v:FV) (o n:Nat):FV:=Nat.rec (motive:=fun _=>FV) t (fun j ih=>bg8 (p4 (Nat.add o j)) (aRb (p4 j) v) ih) n
noncomputable def bUe (t v:FV) (o n N:Nat):FV:=Bool.rec (motive:=fun _=>FV) (ovT t v o n) v (Bool.rec (motive:=fun _=>Bool) false (Nat.beq n N) (Nat.beq o 0))
abbrev RdT:=FM→Nat→Nat→List LE→List LE→P4→Nat→Nat→Nat→KV→Ans
noncomputable def rd1b (t:FV) (n _T:Nat):RdT:=fun m nx base lg wl _ i o _ k=>iff (Nat.ble (Nat.succ o) n) (k (aRb (p4 o) t) ⟨m,nx,base,bf5 base i ⟨i,o,1,false⟩ lg,wl⟩)
noncomputable def rdnb (t:FV) (n _T:Nat):RdT:=fun m nx base lg wl _ i o c k=>iff (Nat.ble (Nat.add o c) n) (k (.g (bI9 t o c) c) ⟨m,nx,base,bf5 base i ⟨i,o,c,false⟩ lg,wl⟩)
noncomputable def c82 (m:FM) (nx base:Nat) (lg wl:List LE) (q:P4) (i o:Nat) (k:KV):Ans:=FB.rec (motive:=fun _=>RdT) (fun _ _ _ _ _ _ _ _ _ _=>none) rd1b (fun _ _ _ _ _ _ _ _ _ _ _ _=>none) (fun _ _ _ _ _ _ _ _ _ _ _ _ _ _ _=>none) (fun _ _ _ _ _ _ _ _ _ _=>none) (getM q m) m nx base lg wl q i o 1 k
noncomputable def c7y (m:FM) (nx base:Nat) (lg wl:List LE) (q:P4) (i o c:Nat) (k:KV):Ans:=FB.rec (motive:=fun _=>RdT) (fun _ _ _ _ _ _ _ _ _ _=>none) rdnb (fun _ _ _ _ _ _ _ _ _ _ _ _=>none) (fun _ _ _ _ _ _ _ _ _ _ _ _ _ _ _=>none) (fun _ _ _ _ _ _ _ _ _ _=>none) (getM q m) m nx base lg wl q i o c k
noncomputable def c83 (q:P4) (i o:Nat) (s:QW) (k:KV):Ans:=QW.rec (motive:=fun _=>P4→Nat→Nat→KV→Ans) c82 s q i o k
noncomputable def bnv (q:P4) (i o c:Nat) (s:QW) (k:KV):Ans:=QW.rec (motive:=fun _=>P4→Nat→Nat→Nat→KV→Ans) c7y s q i o c k
abbrev KS:=QW→Ans
abbrev WrT:=FM→Nat→Nat→List LE→List LE→P4→Nat→Nat→FV→Nat→KS→Ans
noncomputable def wr1b (t:FV) (n T:Nat):WrT:=fun m nx base lg wl q i o v _ k=>iff (Nat.ble (Nat.succ o) n) (k ⟨bir q (.cells (bg8 (p4 o) v t) n T) m,nx,base,bf5 base i ⟨i,o,1,false⟩ lg,bf5 base i ⟨i,o,1,false⟩ wl⟩)
noncomputable def wrnb (t:FV) (n T:Nat):WrT:=fun m nx base lg wl q i o v c k=>iff (Nat.ble (Nat.add o c) n) (k ⟨bir q (.cells (bUe t v o c n) n T) m,nx,base,bf5 base i ⟨i,o,c,false⟩ lg,bf5 base i ⟨i,o,c,false⟩ wl⟩)
noncomputable def c6z (m:FM) (nx base:Nat) (lg wl:List LE) (q:P4) (i o:Nat) (v:FV) (k:KS):Ans:=iff (Nat.ble 2048 i) (FB.rec (motive:=fun _=>WrT) (fun _ _ _ _ _ _ _ _ _ _ _=>none) wr1b (fun _ _ _ _ _ _ _ _ _ _ _ _ _=>none) (fun _ _ _ _ _ _ _ _ _ _ _ _ _ _ _ _=>none) (fun _ _ _ _ _ _ _ _ _ _ _=>none) (getM q m) m nx base lg wl q i o v 1 k)
noncomputable def c6x (m:FM) (nx base:Nat) (lg wl:List LE) (q:P4) (i o:Nat) (v:FV) (c:Nat) (k:KS):Ans:=iff (Nat.ble 2048 i) (FB.rec (motive:=fun _=>WrT) (fun _ _ _ _ _ _ _ _ _ _ _=>none) wrnb (fun _ _ _ _ _ _ _ _ _ _ _ _ _=>none) (fun _ _ _ _ _ _ _ _ _ _ _ _ _ _ _ _=>none) (fun _ _ _ _ _ _ _ _ _ _ _=>none) (getM q m) m nx base lg wl q i o v c k)
noncomputable def wr1C (q:P4) (i o:Nat) (v:FV) (s:QW) (k:KS):Ans:=QW.rec (motive:=fun _=>P4→Nat→Nat→FV→KS→Ans) c6z s q i o v k
noncomputable def bSa (q:P4) (i o:Nat) (v:FV) (c:Nat) (s:QW) (k:KS):Ans:=QW.rec (motive:=fun _=>P4→Nat→Nat→FV→Nat→KS→Ans) c6x s q i o v c k
noncomputable def nwb (m:FM) (base:Nat) (lg wl:List LE) (v:FB) (x i:Nat) (k:P4→Nat→QW→Ans):Ans:=k (p4 i) i ⟨bir (p4 i) v m,Nat.succ x,base,lg,wl⟩
noncomputable def nwa (m:FM) (nx base:Nat) (lg wl:List LE) (g:Bool) (v:FB) (k:P4→Nat→QW→Ans):Ans:=strict (fun x=>strict (fun i=>nwb m base lg wl v x i k) (Bool.rec (motive:=fun _=>Nat) (Nat.mul 2 x) (Nat.succ (Nat.mul 2 x)) g)) nx
noncomputable def bem (g:Bool) (v:FB) (s:QW) (k:P4→Nat→QW→Ans):Ans:=QW.rec (motive:=fun _=>Bool→FB→(P4→Nat→QW→Ans)→Ans) nwa s g v k
noncomputable def kla (m:FM) (nx base:Nat) (lg wl:List LE) (q:P4) (i:Nat) (k:KS):Ans:=match getM q m with
 | .cells _ _ _=>k ⟨bir q .no m,nx,base,bf5 base i (whole i) lg,bf5 base i (whole i) wl⟩
 | _=>none
noncomputable def c2s (q:P4) (i:Nat) (s:QW) (k:KS):Ans:=QW.rec (motive:=fun _=>P4→Nat→KS→Ans) kla s q i k
noncomputable def rtb (_t:FV) (_n T:Nat):FM→Nat→Nat→List LE→List LE→Nat→(Nat→QW→Ans)→Ans:=fun m nx base lg wl i k=>k T ⟨m,nx,base,bf5 base i ⟨i,0,0,false⟩ lg,wl⟩
noncomputable def rta (m:FM) (nx base:Nat) (lg wl:List LE) (q:P4) (i:Nat) (k:Nat→QW→Ans):Ans:=FB.rec (motive:=fun _=>FM→Nat→Nat→List LE→List LE→Nat→(Nat→QW→Ans)→Ans) (fun _ _ _ _ _ _ _=>none) rtb (fun _ _ _ _ _ _ _ _ _=>none) (fun _ _ _ _ _ _ _ _ _ _ _ _=>none) (fun _ _ _ _ _ _ _=>none) (getM q m) m nx base lg wl i k
noncomputable def bXd (q:P4) (i:Nat) (s:QW) (k:Nat→QW→Ans):Ans:=QW.rec (motive:=fun _=>P4→Nat→(Nat→QW→Ans)→Ans) rta s q i k
abbrev ME:=List (AV×AV×Nat)
noncomputable def rmC (i:Nat) (s:QW) (k:ME→Nat→QW→Ans):Ans:=match s with
 | ⟨m,nx,base,lg,wl⟩=>match getM (p4 i) m with
  | .map es c=>k es c ⟨m,nx,base,bf5 base i ⟨i,0,0,false⟩ lg,wl⟩
  | _=>none
noncomputable def wmC (i:Nat) (es:ME) (c:Nat) (s:QW) (k:KS):Ans:=match s with
 | ⟨m,nx,base,lg,wl⟩=>match Nat.ble roB i,getM (p4 i) m with
  | true,.map _ _=>k ⟨bir (p4 i) (.map es c) m,nx,base,bf5 base i (whole i) lg,bf5 base i (whole i) wl⟩
  | _,_=>none
abbrev LR5:=FF→List Nat→Code→Code→LS→QW→Ans
noncomputable def rlC (i:Nat) (s:QW) (k:LR5):Ans:=match s with
 | ⟨m,nx,base,lg,wl⟩=>match getM (p4 i) m with
  | .loop fr ps a b st=>k fr ps a b st ⟨m,nx,base,bf5 base i ⟨i,0,0,false⟩ lg,wl⟩
  | _=>none
noncomputable def wlC (i:Nat) (st:LS) (s:QW) (k:KS):Ans:=match s with
 | ⟨m,nx,base,lg,wl⟩=>match Nat.ble roB i,getM (p4 i) m with
  | true,.loop fr ps a b _=>k ⟨bir (p4 i) (.loop fr ps a b st) m,nx,base,bf5 base i (whole i) lg,bf5 base i (whole i) wl⟩
  | _,_=>none
noncomputable def bId (i:Nat) (s:QW) (k:KS):Ans:=match s with
 | ⟨m,nx,base,lg,wl⟩=>match Nat.ble roB i,getM (p4 i) m with
  | true,.dfr=>k ⟨bir (p4 i) .no m,nx,base,bf5 base i (whole i) lg,bf5 base i (whole i) wl⟩
  | _,_=>none
noncomputable def bnl (P:Program) (t:Nat):Option (Bool×Nat):=match aYb P t with
 | some ty=>some (agg ty.d,ty.size)
 | none=>none
noncomputable def ldP (b:Bool) (n:Nat) (q:P4) (i o:Nat) (s:QW) (k:KV):Ans:=Bool.rec (motive:=fun _=>Ans) (c83 q i o s k) (bnv q i o n s k) b
noncomputable def ldV (v:FV) (b:Bool) (n:Nat) (s:QW) (k:KV):Ans:=FV.rec (motive:=fun _=>Bool→Nat→QW→KV→Ans) (fun _ _=>fun _ _ _ _=>none) (fun _=>fun _ _ _ _=>none) (fun q i o b n s k=>ldP b n q i o s k) (fun _ _ _ _ _=>fun _ _ _ _=>none) (fun _=>fun _ _ _ _=>none) (fun _=>fun _ _ _ _=>none) (fun _ _ _=>fun _ _ _ _=>none) (fun _ _ _=>fun _ _ _ _=>none) (fun _ _ _ _=>none) (fun _ _ _ _ _ _ _ _ _ _=>fun _ _ _ _=>none) v b n s k
noncomputable def ldT (z:Bool×Nat) (v:FV) (s:QW) (k:KV):Ans:=Prod.rec (motive:=fun _=>FV→QW→KV→Ans) (fun b n v s k=>ldV v b n s k) z v s k
noncomputable def bz7 (P:Program) (t:Nat) (v:FV) (s:QW) (k:KV):Ans:=Option.rec (motive:=fun _=>FV→QW→KV→Ans) (fun _ _ _=>none) ldT (bnl P t) v s k
noncomputable def c6v (t:Nat) (a:Operand):OpC:=fun c fr s k=>bz7 c.P t (oV a fr) s k
noncomputable def st1 (v:FV) (n:Nat) (q:P4) (i o:Nat) (s:QW) (k:KV):Ans:=iff (Nat.beq n 1) (wr1C q i o v s (k .e))
noncomputable def stG (t:FV) (c:Nat) (n:Nat) (q:P4) (i o:Nat) (s:QW) (k:KV):Ans:=iff (Nat.beq c n) (Nat.rec (motive:=fun _=>Ans) (k .e s) (fun _ _=>bSa q i o t c s (k .e)) c)
noncomputable def stV (v:FV) (n:Nat) (q:P4) (i o:Nat) (s:QW) (k:KV):Ans:=FV.rec (motive:=fun _=>Nat→P4→Nat→Nat→QW→KV→Ans) (fun k n=>st1 (.i k n)) (fun v=>st1 (.b v)) (fun q k o=>st1 (.p q k o)) (fun q k o n c=>st1 (.s q k o n c)) (fun v=>st1 (.o v)) (fun _=>fun _ _ _ _ _ _=>none) (fun t n _=>stG t n) (fun _ _ _=>fun _ _ _ _ _ _=>none) (fun _ _ _ _ _ _=>none) (fun _ _ _ _ _ _ _ _ _ _=>fun _ _ _ _ _ _=>none) v n q i o s k
noncomputable def stA (a v:FV) (n:Nat) (s:QW) (k:KV):Ans:=FV.rec (motive:=fun _=>FV→Nat→QW→KV→Ans) (fun _ _=>fun _ _ _ _=>none) (fun _=>fun _ _ _ _=>none) (fun q i o v n s k=>stV v n q i o s k) (fun _ _ _ _ _=>fun _ _ _ _=>none) (fun _=>fun _ _ _ _=>none) (fun _=>fun _ _ _ _=>none) (fun _ _ _=>fun _ _ _ _=>none) (fun _ _ _=>fun _ _ _ _=>none) (fun _ _ _ _=>none) (fun _ _ _ _ _ _ _ _ _ _=>fun _ _ _ _=>none) a v n s k
noncomputable def bAg (t:Nat) (a v:Operand):OpC:=fun c fr s k=>Option.rec (motive:=fun _=>Ans) none (fun z=>stA (oV a fr) (oV v fr) z.2 s k) (bnl c.P t)
noncomputable def bW2 (P:Program) (t j:Nat):Option Nat:=match aYb P t with
 | some ⟨.bgc fs,_,_,_⟩=>match placeOf P fs j with
  | some (off,_+1)=>some off
  | _=>none
 | _=>none
noncomputable def bgn (v:FV) (off:Nat) (s:QW) (k:KV):Ans:=FV.rec (motive:=fun _=>Nat→QW→KV→Ans) (fun _ _=>fun _ _ _=>none) (fun _=>fun _ _ _=>none) (fun q i o off s k=>k (.p q i (Nat.add o off)) s) (fun _ _ _ _ _=>fun _ _ _=>none) (fun _=>fun _ _ _=>none) (fun _=>fun _ _ _=>none) (fun _ _ _=>fun _ _ _=>none) (fun _ _ _=>fun _ _ _=>none) (fun _ _ _=>none) (fun _ _ _ _ _ _ _ _ _ _=>fun _ _ _=>none) v off s k
noncomputable def by4 (t:Nat) (x:Operand) (j:Nat):OpC:=fun c fr s k=>opt (bW2 c.P t j) fun off=>bgn (oV x fr) off s k
noncomputable def c9c (P:Program) (t:Nat):Option (Option Nat×Nat):=match aYb P t with
 | some ty=>match ty.d with
  | .arr n e=>match bau P e with
   | some size=>some (some n,size)
   | none=>none
  | .slice e=>match bau P e with
   | some size=>some (none,size)
   | none=>none
  | _=>none
 | none=>none
noncomputable def iaP (x:FV) (n j size:Nat) (s:QW) (k:KV):Ans:=FV.rec (motive:=fun _=>Nat→Nat→Nat→QW→KV→Ans) (fun _ _=>fun _ _ _ _ _=>none) (fun _=>fun _ _ _ _ _=>none) (fun q i o n j size s k=>iff (Nat.ble (Nat.succ j) n) (k (.p q i (Nat.add o (Nat.mul j size))) s)) (fun _ _ _ _ _=>fun _ _ _ _ _=>none) (fun _=>fun _ _ _ _ _=>none) (fun _=>fun _ _ _ _ _=>none) (fun _ _ _=>fun _ _ _ _ _=>none) (fun _ _ _=>fun _ _ _ _ _=>none) (fun _ _ _ _ _=>none) (fun _ _ _ _ _ _ _ _ _ _=>fun _ _ _ _ _=>none) x n j size s k
noncomputable def iaS (x:FV) (j size:Nat) (s:QW) (k:KV):Ans:=FV.rec (motive:=fun _=>Nat→Nat→QW→KV→Ans) (fun _ _=>fun _ _ _ _=>none) (fun _=>fun _ _ _ _=>none) (fun _ _ _=>fun _ _ _ _=>none) (fun q i o n _ j size s k=>iff (Nat.ble (Nat.succ j) n) (k (.p q i (Nat.add o (Nat.mul j size))) s)) (fun _=>fun _ _ _ _=>none) (fun _=>fun _ _ _ _=>none) (fun _ _ _=>fun _ _ _ _=>none) (fun _ _ _=>fun _ _ _ _=>none) (fun _ _ _ _=>none) (fun _ _ _ _ _ _ _ _ _ _=>fun _ _ _ _=>none) x j size s k
noncomputable def bqu (v:FV) (k:Nat→Ans):Ans:=FV.rec (motive:=fun _=>(Nat→Ans)→Ans) (fun _ n k=>k n) (fun _=>fun _=>none) (fun _ _ _=>fun _=>none) (fun _ _ _ _ _=>fun _=>none) (fun _=>fun _=>none) (fun _=>fun _=>none) (fun _ _ _=>fun _=>none) (fun _ _ _=>fun _=>none) (fun _=>none) (fun _ _ _ _ _ _ _ _ _ _=>fun _=>none) v k
noncomputable def iaT (z:Option Nat×Nat) (x:FV) (j:Nat) (s:QW) (k:KV):Ans:=Prod.rec (motive:=fun _=>FV→Nat→QW→KV→Ans) (fun a size x j s k=>Option.rec (motive:=fun _=>Ans) (iaS x j size s k) (fun n=>iaP x n j size s k) a) z x j s k
noncomputable def by3 (t:Nat) (x ix:Operand):OpC:=fun c fr s k=>opt (c9c c.P t) fun z=>bqu (oV ix fr) fun j=>iaT z (oV x fr) j s k
noncomputable def azg (l:List AV):FV:=mkT (l.map of0) 0
noncomputable def bAf (P:Program) (t:Nat):Option (FV×Nat):=match aYb P t with
 | some ty=>match aRg ty.zero with
  | true=>some (azg ty.zero,ty.zero.length)
  | false=>none
 | none=>none
noncomputable def bsq (P:Program) (t:Nat) (s:QW) (k:KV):Ans:=opt (bAf P t) fun z=>bem false (.cells z.1 z.2 t) s fun q i s=>k (.p q i 0) s
noncomputable def bNq (t:Nat):OpC:=fun c _ s k=>bsq c.P t s k
noncomputable def bxV (v:FV) (t:Nat) (s:QW) (k:KV):Ans:=FV.rec (motive:=fun _=>Nat→QW→KV→Ans) (fun k n=>fun tt ss kk=>bem false (.cells (bg8 (p4 0) (FV.i k n) .e) 1 tt) ss fun qq ii ss=>kk (.p qq ii 0) ss) (fun v=>fun tt ss kk=>bem false (.cells (bg8 (p4 0) (FV.b v) .e) 1 tt) ss fun qq ii ss=>kk (.p qq ii 0) ss) (fun q k o=>fun tt ss kk=>bem false (.cells (bg8 (p4 0) (FV.p q k o) .e) 1 tt) ss fun qq ii ss=>kk (.p qq ii 0) ss) (fun q k o n c=>fun tt ss kk=>bem false (.cells (bg8 (p4 0) (FV.s q k o n c) .e) 1 tt) ss fun qq ii ss=>kk (.p qq ii 0) ss) (fun v=>fun tt ss kk=>bem false (.cells (bg8 (p4 0) (FV.o v) .e) 1 tt) ss fun qq ii ss=>kk (.p qq ii 0) ss) (fun _ _ _ _=>none) (fun t n _=>(fun c n t s k=>bem false (.cells c n t) s fun q i s=>k (.p q i 0) s) t n) (fun t n _=>(fun _ _ _ _ _=>none) t n) (fun _ _ _=>none) (fun x a b c d _ _ _ _ _=>(fun _ _ _ _ _ _ _ _=>none) x a b c d) v t s k
noncomputable def yBox (t:Nat) (x:Operand):OpC:=fun _ fr s k=>bxV (oV x fr) t s k
noncomputable def lyG (c:FV) (m:Nat) (t:FV) (off size N:Nat) (k:FV→Ans):Ans:=iff (Nat.beq m size) (iff (Nat.ble (Nat.add off size) N) (k (bUe t c off size N)))
noncomputable def ly1 (v:FV) (t:FV) (off size N:Nat) (k:FV→Ans):Ans:=iff (Nat.beq size 1) (iff (Nat.ble (Nat.succ off) N) (k (bg8 (p4 off) v t)))
noncomputable def lyV (v:FV) (t:FV) (off size N:Nat) (k:FV→Ans):Ans:=FV.rec (motive:=fun _=>FV→Nat→Nat→Nat→(FV→Ans)→Ans) (fun k n=>ly1 (.i k n)) (fun v=>ly1 (.b v)) (fun q k o=>ly1 (.p q k o)) (fun q k o n c=>ly1 (.s q k o n c)) (fun v=>ly1 (.o v)) (fun _=>fun _ _ _ _ _=>none) (fun t n _=>lyG t n) (fun _ _ _=>fun _ _ _ _ _=>none) (fun _ _ _ _ _=>none) (fun _ _ _ _ _ _ _ _ _ _=>fun _ _ _ _ _=>none) v t off size N k
abbrev PL:=Nat→Option (Nat×Nat)
noncomputable def bv1 (pl:PL) (N:Nat) (l:List (Nat×FV)) (t:FV) (k:FV→Ans):Ans :=
 List.rec (motive:=fun _=>FV→Ans) k (fun p _ ih t=>opt (pl p.1) fun z=>lyV p.2 t z.1 z.2 N ih) l t
noncomputable def bt7 (l:List (Nat×Operand)) (fr:FF):List (Nat×FV):=List.rec (motive:=fun _=>List (Nat×FV)) [] (fun p _ ih=>(p.1,oV p.2 fr) :: ih) l
noncomputable def c07 (P:Program) (t:Nat):PL:=fun j=>match aYb P t with
 | some ty=>match ty.d with
  | .bgc fs=>placeOf P fs j
  | .arr _ e=>match bau P e with
   | some n=>some (j * n,n)
   | none=>none
  | _=>none
 | none=>none
noncomputable def c41 (P:Program) (t:Nat):Bool:=match aYb P t with
 | some ty=>match ty.d with
  | .bgc fs=>bh9 P fs
  | .arr _ e=>match bau P e with
   | some _=>true
   | none=>false
  | _=>false
 | none=>false
noncomputable def bsl (P:Program) (t:Nat) (ps:List (Nat×FV)) (s:QW) (k:KV):Ans:=iff (c41 P t) (opt (bAf P t) fun z=>bv1 (c07 P t) z.2 ps z.1 fun r=>k (.g r z.2) s)
noncomputable def bNp (t:Nat) (ps:Array (Nat×Operand)):OpC:=fun c fr s k=>bsl c.P t (bt7 ps.toList fr) s k
noncomputable def bsOf (P:Program) (t len:Nat):Option (Nat×Nat×FV×Nat):=match aYb P t with
 | some ⟨.slice e,_,_,_⟩=>match aYb P e with
  | some ty=>match Nat.ble (len * ty.size) 16777216&&Nat.beq ty.zero.length ty.size&&aRg ty.zero with
   | true=>some (e,ty.size,azg (bjy ty.zero len),(bjy ty.zero len).length)
   | false=>none
  | none=>none
 | _=>none
noncomputable def bg3 (P:Program) (t len:Nat) (ps:List (Nat×FV)) (s:QW) (k:KV):Ans:=opt (bsOf P t len) fun z=>bv1 (fun j=>some (j * z.2.1,z.2.1)) z.2.2.2 ps z.2.2.1 fun r=>bem false (.cells r z.2.2.2 z.1) s fun q i s=>k (.s q i 0 len len) s
noncomputable def bje (t len:Nat) (ps:Array (Nat×Operand)):OpC:=fun c fr s k=>bg3 c.P t len (bt7 ps.toList fr) s k
noncomputable def nilA (v:AV) (s:QW) (k:KV):Ans:=match v with
 | .f fn a c=>k (.o (.f fn a c)) s
 | .m r=>k (.o (.m r)) s
 | _=>none
noncomputable def bV0 (v:FV) (s:QW) (k:KV):Ans:=FV.rec (motive:=fun _=>QW→KV→Ans) (fun _ _=>fun _ _=>none) (fun _=>fun _ _=>none) (fun q i o s k=>k (.p q i o) s) (fun _ _ _ _ _=>fun _ _=>none) nilA (fun _=>fun _ _=>none) (fun _ _ _=>fun _ _=>none) (fun _ _ _=>fun _ _=>none) (fun _ _=>none) (fun _ _ _ _ _ _ _ _ _ _=>fun _ _=>none) v s k
noncomputable def yNil (x:Operand):OpC:=fun _ fr s k=>bV0 (oV x fr) s k
noncomputable def bEo (P:Program) (a t:Nat):Option IntKind:=match aYb P a,aYb P t with
 | some _,some ⟨.int k,_,_,_⟩=>some k
 | _,_=>none
noncomputable def cvS (kd:IntKind) (v:AV) (s:QW) (k:KV):Ans:=match v with
 | .i _ n=>k (ofI kd (bb4 kd n)) s
 | .x _ j=>opt (Sym.cv kd j) fun v=>k (ofV v) s
 | _=>none
noncomputable def cvV (v:FV) (kd:IntKind) (s:QW) (k:KV):Ans:=FV.rec (motive:=fun _=>IntKind→QW→KV→Ans) (fun _ n kd s k=>k (bAk kd n) s) (fun _=>fun _ _ _=>none) (fun _ _ _=>fun _ _ _=>none) (fun _ _ _ _ _=>fun _ _ _=>none) (fun v kd s k=>cvS kd v s k) (fun _=>fun _ _ _=>none) (fun _ _ _=>fun _ _ _=>none) (fun _ _ _=>fun _ _ _=>none) (fun _ _ _=>none) (fun _ _ _ _ _ _ _ _ _ _=>fun _ _ _=>none) v kd s k
noncomputable def bxg (v:FV):Option (List Nat):=match b8x v with
 | .g l=>b9y l
 | _=>none
noncomputable def cvT (P:Program) (a t:Nat) (x:FV) (s:QW) (k:KV):Ans:=match aYb P a,aYb P t with
 | some sd,some d=>match sd.d,d.d,x with
  | _,.str,.o (.s v)=>k (.o (.s v)) s
  | .slice e,.str,.s q i o n _=>match aYb P e with
   | some ⟨.int .u8,_,_,_⟩=>bnv q i o n s fun v s=>opt (bxg v) fun r=>k (.o (.s r)) s
   | _=>none
  | .slice e,.str,.o (.sl none _ _)=>match aYb P e with
   | some ⟨.int .u8,_,_,_⟩=>k (.o (.s [])) s
   | _=>none
  | _,_,_=>none
 | _,_=>none
noncomputable def bS9 (a t:Nat) (x:Operand):OpC:=fun c fr s k=>Option.rec (motive:=fun _=>Ans) (cvT c.P a t (oV x fr) s k) (fun kd=>cvV (oV x fr) kd s k) (bEo c.P a t)
noncomputable def bp9 (l:List Operand) (fr:FF):List FV:=List.rec (motive:=fun _=>List FV) [] (fun x _ ih=>oV x fr :: ih) l
noncomputable def bXs (l:List FV):List AV:=List.rec (motive:=fun _=>List AV) [] (fun x _ ih=>b8x x :: ih) l
noncomputable def bgt (f:Nat) (a c:List FV) (s:QW) (k:KV):Ans:=k (.o (.f f (bXs a) (bXs c))) s
noncomputable def bAi (fn:Fn) (a c:Array Operand):OpC:=fun _ fr s k=>match fn with
 | .func f=>bgt f (bp9 a.toList fr) (bp9 c.toList fr) s k
 | _=>none
noncomputable def bLv (s:QW) (k:KV):Ans:=bem false (.map [] 0) s fun _ i s=>k (.o (.m (some i))) s
noncomputable def bH9 (_:Nat) (r:Option Operand):OpC:=fun _ _ s k=>match r with
 | none=>bLv s k
 | some _=>none
noncomputable def bZ9 (z:FV) (size:Nat) (n:Nat):FV:=Nat.rec (motive:=fun _=>FV) .e (fun j ih=>ovT ih z (Nat.mul j size) size) n
noncomputable def c5l (P:Program) (t:Nat):Option (Nat×Nat×FV):=match aYb P t with
 | some ⟨.slice e,_,_,_⟩=>match aYb P e with
  | some ty=>match Nat.ble ty.bytes 100000&&Nat.beq ty.zero.length ty.size&&aRg ty.zero with
   | true=>some (e,ty.size,azg ty.zero)
   | false=>none
  | none=>none
 | _=>none
noncomputable def bmo (P:Program) (t:Nat) (l c:FV) (s:QW) (k:KV):Ans:=opt (c5l P t) fun z=>bqu l fun l=>bqu c fun c=>iff (Nat.ble l c&&Nat.ble c 1000000) (bem false (.cells (bZ9 z.2.2 z.2.1 c) (Nat.mul c z.2.1) z.1) s fun q i s=>k (.s q i 0 l c) s)
noncomputable def blz (t:Nat) (l c:Operand):OpC:=fun cx fr s k=>bmo cx.P t (oV l fr) (oV c fr) s k
noncomputable def c68 (x:Option FV):Option AV:=match x with
 | some x=>some (b8x x)
 | none=>none
noncomputable def c5e (x:Option Operand) (fr:FF):Option FV:=Option.rec (motive:=fun _=>Option FV) none (fun x=>some (oV x fr)) x
noncomputable def bX6 (P:Program) (t T:Nat):Bool:=match aYb P t with
 | some ⟨.slice e,_,_,_⟩=>Nat.beq T e
 | _=>false
noncomputable def chkO (v:AV) (s:QW) (k:KS):Ans:=match v with
 | .sl (some _) _ _=>none
 | _=>k s
noncomputable def cac (P:Program) (t:Nat) (v:FV) (s:QW) (k:KS):Ans:=FV.rec (motive:=fun _=>Program→Nat→QW→KS→Ans) (fun _ _=>fun _ _ _ _=>none) (fun _=>fun _ _ _ _=>none) (fun _ _ _ _ _ s k=>k s) (fun q i _ _ _ P t s k=>Bool.rec (motive:=fun _=>Ans) (k s) (bXd q i s fun T s=>iff (bX6 P t T) (k s)) (gw i)) (fun v _ _ s k=>chkO v s k) (fun _=>fun _ _ _ _=>none) (fun _ _ _=>fun _ _ _ _=>none) (fun _ _ _=>fun _ _ _ _=>none) (fun _ _ _ _=>none) (fun _ _ _ _ _ _ _ _ _ _=>fun _ _ _ _=>none) v P t s k
noncomputable def bNx (P:Program) (t:Nat) (x:FV) (lo hi mx:Option FV) (s:QW) (k:KV):Ans:=cac P t x s fun s=>opt (bge P t (b8x x) (c68 lo) (c68 hi) (c68 mx)) fun v=>k (ofV v) s
noncomputable def bAh (t:Nat) (x:Operand) (lo hi mx:Option Operand):OpC:=fun c fr s k=>bNx c.P t (oV x fr) (c5e lo fr) (c5e hi fr) (c5e mx fr) s k
noncomputable def c9v (P:Program) (t j:Nat):Option (Bool×Nat×Nat):=match aYb P t with
 | some ⟨.bgc fs,_,_,_⟩=>match fs[j]? with
  | some (ft,off)=>match aYb P ft with
   | some ty=>some (agg ty.d,off,ty.size)
   | none=>none
  | none=>none
 | _=>none
noncomputable def prt (t:FV) (n:Nat) (b:Bool) (off size:Nat) (s:QW) (k:KV):Ans:=Bool.rec (motive:=fun _=>Ans) (iff (Nat.ble (Nat.succ off) n) (k (aRb (p4 off) t) s)) (iff (Nat.ble (Nat.add off size) n) (k (.g (bI9 t off size) size) s)) b
noncomputable def prV (v:FV) (b:Bool) (off size:Nat) (s:QW) (k:KV):Ans:=FV.rec (motive:=fun _=>Bool→Nat→Nat→QW→KV→Ans) (fun _ _=>fun _ _ _ _ _=>none) (fun _=>fun _ _ _ _ _=>none) (fun _ _ _=>fun _ _ _ _ _=>none) (fun _ _ _ _ _=>fun _ _ _ _ _=>none) (fun _=>fun _ _ _ _ _=>none) (fun _=>fun _ _ _ _ _=>none) (fun t n _=>prt t n) (fun _ _ _=>fun _ _ _ _ _=>none) (fun _ _ _ _ _=>none) (fun _ _ _ _ _ _ _ _ _ _=>fun _ _ _ _ _=>none) v b off size s k
noncomputable def bXz (t:Nat) (x:Operand) (j:Nat):OpC:=fun c fr s k=>opt (c9v c.P t j) fun z=>prV (oV x fr) z.1 z.2.1 z.2.2 s k
noncomputable def c5u (P:Program) (t:Nat):Option (Nat×Bool×Nat):=match aYb P t with
 | some ⟨.arr n e,_,_,_⟩=>match aYb P e with
  | some ty=>some (n,agg ty.d,ty.size)
  | none=>none
 | _=>none
noncomputable def ixS (P:Program) (t:Nat) (x ix:FV) (s:QW) (k:KV):Ans:=opt (bkm P t (b8x x) (b8x ix)) fun v=>k (ofV v) s
noncomputable def bXy (t:Nat) (x ix:Operand):OpC:=fun c fr s k=>Option.rec (motive:=fun _=>Ans) (ixS c.P t (oV x fr) (oV ix fr) s k) (fun z=>bqu (oV ix fr) fun j=>iff (Nat.ble (Nat.succ j) z.1) (prV (oV x fr) z.2.1 (Nat.mul j z.2.2) z.2.2 s k)) (c5u c.P t)
noncomputable def mrC (x:FV) (s:QW) (k:ME→QW→Ans):Ans:=match b8x x with
 | .m none=>k [] s
 | .m (some r)=>rmC r s fun es _ s=>k es s
 | _=>none
noncomputable def bE2 (P:Program) (t:Nat) (x ix:FV) (ok:Bool) (s:QW) (k:KV):Ans:=match aYb P t with
 | some ⟨.map kt et,_,_,_⟩=>match aYb P kt,c55 P et with
  | some kd,some z=>iff (bc4 kd.d) (mrC x s fun es s=>match bri kd.d (b8x ix) es with
   | some (some v)=>match ok with
    | true=>k (ofV (.t [v,.b true])) s
    | false=>k (ofV v) s
   | some none=>match ok with
    | true=>k (ofV (.t [z,.b false])) s
    | false=>k (ofV z) s
   | none=>none)
  | _,_=>none
 | _=>none
noncomputable def bt4 (t:Nat) (x ix:Operand) (ok:Bool):OpC:=fun c fr s k=>bE2 c.P t (oV x fr) (oV ix fr) ok s k
noncomputable def bE0 (P:Program) (t:Nat) (mp kx v:FV) (s:QW) (k:KV):Ans:=iff (sc (b8x kx)&&sc (b8x v)) (match aYb P t,b8x mp with
 | some ⟨.map kt _,_,_,_⟩,.m (some r)=>match aYb P kt with
  | some kd=>iff (bc4 kd.d) (rmC r s fun es clock s=>match bHe kd.d (b8x kx) (b8x v) clock es with
   | some (es',c)=>wmC r es' c s (k .e)
   | none=>none)
  | none=>none
 | _,_=>none)
noncomputable def bhf (t:Nat) (mp kx v:Operand):OpC:=fun c fr s k=>bE0 c.P t (oV mp fr) (oV kx fr) (oV v fr) s k
noncomputable def exV (v:FV) (j:Nat) (s:QW) (k:KV):Ans:=FV.rec (motive:=fun _=>Nat→QW→KV→Ans) (fun _ _=>fun _ _ _=>none) (fun _=>fun _ _ _=>none) (fun _ _ _=>fun _ _ _=>none) (fun _ _ _ _ _=>fun _ _ _=>none) (fun _=>fun _ _ _=>none) (fun _=>fun _ _ _=>none) (fun _ _ _=>fun _ _ _=>none) (fun t n _=>(fun t n j s k=>iff (Nat.ble (Nat.succ j) n) (k (aRb (p4 j) t) s)) t n) (fun _ _ _=>none) (fun _ _ _ _ _ _ _ _ _ _=>fun _ _ _=>none) v j s k
noncomputable def bHa (x:Operand) (j:Nat):OpC:=fun _ fr s k=>exV (oV x fr) j s k
noncomputable def bMn (v:FV):FV:=FV.rec (motive:=fun _=>FV) (fun _ _=>.e) (fun _=>.e) (fun _ _ _=>.e) (fun _ _ _ _ _=>.e) (fun _=>.e) (fun _=>.e) (fun t n _=>(fun t _=>t) t n) (fun _ _ _=>.e) (.e) (fun _ _ _ _ _ _ _ _ _ _=>.e) v
noncomputable def slD (P:Program) (t:Nat):Bool:=match aYb P t with
 | some ⟨.slice _,_,_,_⟩=>true
 | _=>false
noncomputable def bz9 (P:Program) (t:Nat) (x:FV) (s:QW) (k:KV):Ans:=match aYb P t with
 | none=>none
 | some ty=>match ty.d,b8x x with
  | .str,.s v=>k (.i .i64 v.length) s
  | .arr n _,_=>k (.i .i64 n) s
  | .slice _,.sl _ n _=>k (.i .i64 n) s
  | .slice _,.se=>k (.i .i64 0) s
  | .map _ _,.m none=>k (.i .i64 0) s
  | .map _ _,.m (some r)=>rmC r s fun es _ s=>k (.i .i64 es.length) s
  | _,_=>none
noncomputable def bRk (x:FV) (P:Program) (t:Nat) (s:QW) (k:KV):Ans:=FV.rec (motive:=fun _=>Program→Nat→QW→KV→Ans) (fun k n=>fun PP tt ss kk=>bz9 PP tt (FV.i k n) ss kk) (fun v=>fun PP tt ss kk=>bz9 PP tt (FV.b v) ss kk) (fun q k o=>fun PP tt ss kk=>bz9 PP tt (FV.p q k o) ss kk) (fun q i o n c P t s k=>Bool.rec (motive:=fun _=>Ans) (bz9 P t (.s q i o n c) s k) (k (.i .i64 n) s) (slD P t)) (fun v=>fun PP tt ss kk=>bz9 PP tt (FV.o v) ss kk) (fun v=>fun PP tt ss kk=>bz9 PP tt (FV.w v) ss kk) (fun t n _=>fun PP tt ss kk=>bz9 PP tt (FV.g t n) ss kk) (fun t n _=>fun PP tt ss kk=>bz9 PP tt (FV.t t n) ss kk) (fun PP tt ss kk=>bz9 PP tt (FV.e) ss kk) (fun x a b c d _ _ _ _ _=>fun PP tt ss kk=>bz9 PP tt (FV.n x a b c d) ss kk) x P t s k
abbrev cb4:=Nat→FV→Nat→QW→Ans
noncomputable def c7h (v:AV) (s:QW) (k:cb4):Ans:=match v with
 | .sl none 0 _=>k 0 .e 0 s
 | .se=>k 0 .e 0 s
 | .s b=>k b.length (azg (b.map fun c=>.i .u8 (.ofNat c))) b.length s
 | _=>none
noncomputable def c7g (x:FV) (size:Nat) (s:QW) (k:cb4):Ans:=FV.rec (motive:=fun _=>Nat→QW→cb4→Ans) (fun _ _=>fun _ _ _=>none) (fun _=>fun _ _ _=>none) (fun _ _ _=>fun _ _ _=>none) (fun q i o n _ size s k=>bnv q i o (Nat.mul n size) s fun v s=>k n (bMn v) (Nat.mul n size) s) (fun v _ s k=>c7h v s k) (fun _=>fun _ _ _=>none) (fun _ _ _=>fun _ _ _=>none) (fun _ _ _=>fun _ _ _=>none) (fun _ _ _=>none) (fun _ _ _ _ _ _ _ _ _ _=>fun _ _ _=>none) x size s k
noncomputable def apOf (P:Program) (t xt:Nat):Option (Nat×Nat):=match aYb P t with
 | some ⟨.slice e,_,_,_⟩=>match aYb P e with
  | some ty=>match !bkk P xt&&Nat.beq ty.zero.length ty.size&&Nat.ble ty.bytes 100000 with
   | true=>some (e,ty.size)
   | false=>none
  | none=>none
 | _=>none
noncomputable def jnT (old new:FV) (off nc:Nat):FV:=Bool.rec (motive:=fun _=>FV) (ovT old new off nc) new (Nat.beq off 0)
noncomputable def bWl (old new:FV) (off nc e cnt:Nat) (s:QW) (k:KV):Ans:=bem true (.cells (jnT old new off nc) (Nat.add off nc) e) s fun q i s=>k (.s q i 0 cnt cnt) s
noncomputable def apS (q:P4) (b o n c:Nat) (e size cnt:Nat) (new:FV) (nc:Nat) (s:QW) (k:KV):Ans :=
 Bool.rec (motive:=fun _=>Ans)
  (iff (Nat.ble (Nat.add n cnt) 1000000) (bnv q b o (Nat.mul n size) s fun old s=>Bool.rec (motive:=fun _=>Ans)
   (bWl (bMn old) new (Nat.mul n size) nc e (Nat.add n cnt) s k)
   (bXd q b s fun T s=>iff (Nat.beq T e) (iff (Nat.ble 2048 b) (c2s q b s fun s=>bWl (bMn old) new (Nat.mul n size) nc e (Nat.add n cnt) s k))) (gw b)))
  (Nat.rec (motive:=fun _=>Ans) (k (.s q b o (Nat.add n cnt) c) s) (fun _ _=>bSa q b (Nat.add o (Nat.mul n size)) new nc s (k (.s q b o (Nat.add n cnt) c))) nc) (Nat.ble (Nat.add n cnt) c)
noncomputable def apA (v:AV) (e _size cnt:Nat) (new:FV) (nc:Nat) (s:QW) (k:KV):Ans:=match v with
 | .sl none n c=>Bool.rec (motive:=fun _=>Ans) (iff (Nat.ble (Nat.add n cnt) 1000000) (iff (Nat.beq n 0) (bem true (.cells new nc e) s fun q i s=>k (.s q i 0 cnt cnt) s))) (k (.o (.sl none (Nat.add n cnt) c)) s) (Nat.ble (Nat.add n cnt) c)
 | _=>none
noncomputable def apV (x:FV) (e size cnt:Nat) (new:FV) (nc:Nat) (s:QW) (k:KV):Ans:=FV.rec (motive:=fun _=>Nat→Nat→Nat→FV→Nat→QW→KV→Ans) (fun _ _=>fun _ _ _ _ _ _ _=>none) (fun _=>fun _ _ _ _ _ _ _=>none) (fun _ _ _=>fun _ _ _ _ _ _ _=>none) apS apA (fun _=>fun _ _ _ _ _ _ _=>none) (fun _ _ _=>fun _ _ _ _ _ _ _=>none) (fun _ _ _=>fun _ _ _ _ _ _ _=>none) (fun _ _ _ _ _ _ _=>none) (fun _ _ _ _ _ _ _ _ _ _=>fun _ _ _ _ _ _ _=>none) x e size cnt new nc s k
noncomputable def bla (P:Program) (t xt:Nat) (d x:FV) (s:QW) (k:KV):Ans:=opt (apOf P t xt) fun z=>c7g x z.2 s fun cnt new nc s=>iff (Nat.beq nc (Nat.mul cnt z.2)) (apV d z.1 z.2 cnt new nc s k)
noncomputable def cpOf (P:Program) (t:Nat):Option Nat:=match aYb P t with
 | some ⟨.slice e,_,_,_⟩=>match aYb P e with
  | some ty=>some ty.size
  | none=>none
 | _=>none
noncomputable def cpS (q:P4) (b o n _c:Nat) (size cnt:Nat) (new:FV) (s:QW) (k:KV):Ans:=Nat.rec (motive:=fun _=>Ans) (k (.i .i64 (bwy cnt n)) s) (fun _ _=>bSa q b o new (Nat.mul (bwy cnt n) size) s (k (.i .i64 (bwy cnt n)))) (Nat.mul (bwy cnt n) size)
noncomputable def cpA (v:AV) (_size _cnt:Nat) (_new:FV) (s:QW) (k:KV):Ans:=match v with
 | .sl none 0 _=>k (.i .i64 0) s
 | .se=>k (.i .i64 0) s
 | _=>none
noncomputable def cpV (x:FV) (size cnt:Nat) (new:FV) (s:QW) (k:KV):Ans:=FV.rec (motive:=fun _=>Nat→Nat→FV→QW→KV→Ans) (fun _ _=>fun _ _ _ _ _=>none) (fun _=>fun _ _ _ _ _=>none) (fun _ _ _=>fun _ _ _ _ _=>none) cpS cpA (fun _=>fun _ _ _ _ _=>none) (fun _ _ _=>fun _ _ _ _ _=>none) (fun _ _ _=>fun _ _ _ _ _=>none) (fun _ _ _ _ _=>none) (fun _ _ _ _ _ _ _ _ _ _=>fun _ _ _ _ _=>none) x size cnt new s k
noncomputable def c3x (P:Program) (t:Nat) (d x:FV) (s:QW) (k:KV):Ans:=opt (cpOf P t) fun size=>c7g x size s fun cnt new nc s=>iff (Nat.beq nc (Nat.mul cnt size)) (cpV d size cnt new s k)
noncomputable def mmC (m:Bool) (x:FV) (l:List FV) (s:QW) (k:KV):Ans:=opt (bLu m (b8x x) (l.map b8x)) fun v=>k (ofV v) s
noncomputable def biC (bi:Builtin) (ts:List Nat) (args:List FV) (P:Program) (s:QW) (k:KV):Ans :=
 match bi,ts,args with
 | .len,t :: _,[x]=>bRk x P t s k
 | .append,t :: xt :: _,[d,x]=>bla P t xt d x s k
 | .copy,t :: _,[d,x]=>c3x P t d x s k
 | .max,_,x :: l=>mmC true x l s k
 | .min,_,x :: l=>mmC false x l s k
 | _,_,_=>none
noncomputable def bua (l:List AV) (r:List FV):List FV:=List.rec (motive:=fun _=>List FV) r (fun x _ ih=>ofV x :: ih) l
noncomputable def c67 (l r:List FV):List FV:=List.rec (motive:=fun _=>List FV) r (fun x _ ih=>x :: ih) l
noncomputable def clA (v:AV) (args:List FV) (call yl:CF) (s:QW) (k:KV):Ans:=match v with
 | .f fn a cp=>call fn (bua a (c67 args (bua cp []))) s k
 | .y l=>yl l args s k
 | _=>none
noncomputable def bGd (g:FV) (args:List FV) (call yl:CF) (s:QW) (k:KV):Ans:=FV.rec (motive:=fun _=>List FV→CF→CF→QW→KV→Ans) (fun _ _=>fun _ _ _ _ _=>none) (fun _=>fun _ _ _ _ _=>none) (fun _ _ _=>fun _ _ _ _ _=>none) (fun _ _ _ _ _=>fun _ _ _ _ _=>none) clA (fun _=>fun _ _ _ _ _=>none) (fun _ _ _=>fun _ _ _ _ _=>none) (fun _ _ _=>fun _ _ _ _ _=>none) (fun _ _ _ _ _=>none) (fun _ _ _ _ _ _ _ _ _ _=>fun _ _ _ _ _=>none) g args call yl s k
noncomputable def c6w (cl:Call):OpC:=fun c fr s k=>Callee.rec (motive:=fun _=>Ans) (fun f=>bGd (oV f fr) (bp9 cl.args.toList fr) c.call c.yl s k) (fun _ _=>none) (fun bi=>biC bi cl.argTypes.toList (bp9 cl.args.toList fr) c.P s k) cl.callee
noncomputable def opC (o:Op):OpC:=fun c fr s k=>Op.rec (motive:=fun _=>OpC) bXx bXx bS8 bNq yBox bNp bje (fun _ _ _ _ _ _ _ _=>none) c6v bAg (fun _ _ _ _ _=>none) (fun _ _ _ _ _=>none) yNil yBin yUn bS9 (fun _ _ _ _ _ _=>none) (fun _ _ _ _ _ _=>none) bAi bH9 (fun _ _ _ _ _ _=>none) blz bAh by4 bXz by3 bXy bt4 bhf (fun _ _ _ _ _ _ _=>none) (fun _ _ _ _ _ _ _ _=>none) (fun _ _ _ _ _ _=>none) (fun _ _ _ _ _ _=>none) (fun _ _ _ _ _=>none) (fun _ _ _ _ _ _ _ _=>none) bHa c6w (fun _ _ _ _ _=>none) (fun _ _ _ _ _=>none) (fun _ _ _ _ _=>none) (fun _ _ _ _ _ _=>none) (fun _ _ _ _ _ _ _=>none) (fun _ _ _ _ _ _=>none) o c fr s k
noncomputable def bA9 (d:Option Nat) (fr:FF) (v:FV) (s:QW) (k:KF):Ans:=(fun (_:Nat)=>Option.rec (motive:=fun _=>FF→FV→QW→KF→Ans) (fun fr _ s k=>k fr s) (fun i fr v s k=>FF.rec (motive:=fun _=>Nat→FV→QW→KF→Ans) (fun t nt mks i v s k=>Bool.rec (motive:=fun _=>Ans) none (k ⟨bg8 (p4 i) v t,nt,mks⟩ s) (Nat.ble (Nat.succ i) nt)) fr i v s k) d fr v s k) c9m
noncomputable def bVx (ops:List Oper) (j:Nat):Option Nat:=match ops[j]? with
 | some q=>q.dst
 | none=>none
noncomputable def eqB (a b:Bool):Bool:=Bool.rec (motive:=fun _=>Bool) (bXh b) b a
noncomputable def wA (v:AV) (n:Ans):Ans:=match v with
 | .bad=>none
 | _=>n
noncomputable def wO (v:AV) (n:Ans):Ans:=match v with
 | .b _=>none
 | _=>n
noncomputable def aWg (v:FV) (want:Bool) (y n:Ans):Ans:=FV.rec (motive:=fun _=>Bool→Ans→Ans→Ans) (fun _ n=>fun _ _ n=>n) (fun v want y n=>Bool.rec (motive:=fun _=>Ans) n y (eqB v want)) (fun _ _ _=>fun _ _ n=>n) (fun _ _ _ n _=>fun _ _ n=>n) (fun v _ _ n=>wO v n) (fun v _ _ n=>wA v n) (fun _ n _=>fun _ _ n=>n) (fun _ n _=>fun _ _ n=>n) (fun _ _ n=>n) (fun _ _ _ _ _ _ _ _ _ _=>fun _ _ n=>n) v want y n
noncomputable def c3d (g:Nat×Bool) (ops:List Oper) (fr:FF) (y n:Ans):Ans:=Option.rec (motive:=fun _=>Ans) n (fun t=>aWg (oT t fr) g.2 y n) (bVx ops g.1)
noncomputable def oneG (g:Nat×Bool) (d:Option Nat) (o:Op):Cx→FF→QW→KF→Ans:=fun c fr s k=>bnk (fun kk=>c3d g c.ops fr (opC o c fr s kk) (kk .e s)) (fun v s=>bA9 d fr v s k)
noncomputable def oneN (d:Option Nat) (o:Op):Cx→FF→QW→KF→Ans:=fun c fr s k=>opC o c fr s fun v s=>bA9 d fr v s k
noncomputable def oneX (d:Option Nat) (o:Op) (_:Nat) (_:String) (_:Array Edge) (g:Option (Nat×Bool)):Cx→FF→QW→KF→Ans:=Option.rec (motive:=fun _=>Option Nat→Op→Cx→FF→QW→KF→Ans) oneN oneG g d o
noncomputable def c0i (o:Oper):Cx→FF→QW→KF→Ans:=Oper.rec (motive:=fun _=>Cx→FF→QW→KF→Ans) oneX o
noncomputable def opsN (_:Cx) (fr:FF) (s:QW) (k:KF):Ans:=k fr s
noncomputable def opsK (o:Oper) (_:List Oper) (ih:Cx→FF→QW→KF→Ans) (c:Cx) (fr:FF) (s:QW) (k:KF):Ans:=c0i o c fr s fun fr s=>ih c fr s k
noncomputable def c8g (l:List Oper):Cx→FF→QW→KF→Ans:=List.rec (motive:=fun _=>Cx→FF→QW→KF→Ans) opsN opsK l
structure QF where
 lg:List LE
 wl:List LE
 lo:Nat
 hi:Nat
noncomputable def leK (e:LE):Nat:=LE.rec (motive:=fun _=>Nat) (fun k _ _ _=>k) e
noncomputable def mrg (base:Nat) (a b:List LE):List LE:=List.rec (motive:=fun _=>List LE) b (fun e _ ih=>bf5 base (leK e) e ih) a
noncomputable def dbl (n:Nat):Nat:=Nat.mul 2 n
noncomputable def sndK (base nx0:Nat) (lg wl:List LE) (k:QF→KF) (fr:FF) (s:QW):Ans:=(fun (_:Nat)=>QW.rec (motive:=fun _=>Ans) (fun m nx _ lg' wl'=>k ⟨lg',wl',dbl nx0,dbl nx⟩ fr ⟨m,nx,base,mrg base lg' lg,mrg base wl' wl⟩) s) c9m
noncomputable def bYv (o:Oper) (c:Cx) (fr:FF) (s:QW) (k:QF→KF):Ans:=QW.rec (motive:=fun _=>Ans) (fun m nx base lg wl=>c0i o c fr ⟨m,nx,dbl nx,[],[]⟩ (sndK base nx lg wl k)) s
noncomputable def bLa (l:List Oper) (c:Cx) (fr:FF) (s:QW) (k:List QF→KF):Ans:=List.rec (motive:=fun _=>FF→QW→(List QF→KF)→Ans) (fun fr s k=>k [] fr s) (fun o _ ih fr s k=>bYv o c fr s fun q fr s=>ih fr s fun qs fr s=>k (q :: qs) fr s) l fr s k
def prs (bef:Nat) (b:bjd):List bjd→Nat→Option (List Bool)
 | [],_=>some []
 | a :: l,j=>match bef.testBit j with
  | true=>match prs bef b l (j+1) with
   | some r=>some (false :: r)
   | none=>none
  | false=>match bv4 a.dst b.ins&&bv4 a.dst b.dst&&bv4 b.dst a.ins with
   | true=>match prs bef b l (j+1) with
    | some r=>some (true :: r)
    | none=>none
   | false=>none
def bqh (pre:List bjd):List bjd→List Nat→Option (List (List Bool))
 | [],_=>some []
 | b :: l,bf :: bs=>match prs bf b pre 0 with
  | some r=>match bqh (pre ++ [b]) l bs with
   | some rs=>some (r :: rs)
   | none=>none
  | none=>none
 | _ :: _,[]=>none
def bor (ops:List Oper) (o:Oper):bjd:=⟨tmpsOf o ops,o.dst.toList,[],[]⟩
def bSw (P:Program) (ops:List Oper):Option (List (List Bool)):=match P.follows .mixedOrders&&bhq ops 0 with
 | true=>bqh [] (ops.map (bor ops)) (bXr ops [])
 | false=>none
def bk8 (lo hi:Nat):List LE→Bool
 | []=>true
 | e :: l=>match Nat.ble lo e.k&&Nat.ble (e.k+1) hi with
  | true=>false
  | false=>bk8 lo hi l
def bqj (a b:QF):Bool:=match a,b with
 | ⟨lg,wl,lo,hi⟩,⟨lg',wl',lo',hi'⟩=>(Nat.ble hi lo' || Nat.ble hi' lo)&&bk8 lo hi lg' && bk8 lo hi wl' && bk8 lo' hi' lg&&bk8 lo' hi' wl&&clear wl lg' && clear wl' lg
def bW8 (b:QF):List Bool→List QF→Bool
 | m :: ms,a :: l=>match m with
  | true=>match bqj a b with
   | true=>bW8 b ms l
   | false=>false
  | false=>bW8 b ms l
 | [],[]=>true
 | _,_=>false
def bW9 (pre:List QF):List QF→List (List Bool)→Bool
 | [],[]=>true
 | b :: l,m :: ms=>match bW8 b m pre with
  | true=>bW9 (pre ++ [b]) l ms
  | false=>false
 | _,_=>false
noncomputable def c5c (draw:Bool) (c:Cx) (fr:FF) (s:QW) (k:KF):Ans:=Bool.rec (motive:=fun _=>Ans) (c8g c.ops c fr s k) (opt (bSw c.P c.ops) fun ms=>bLa c.ops c fr s fun qs fr s=>iff (bW9 [] qs ms) (k fr s)) draw
abbrev SMF:=Nat→Option (List FV→QW→KV→Ans)
abbrev IH:=Option Nat→Code→FF→QW→KE→Ans
noncomputable def bTi (P:Program) (fr:FF) (rs:List ResultVar) (s:QW) (k:List FV→QW→Ans):Ans :=
 List.rec (motive:=fun _=>QW→(List FV→QW→Ans)→Ans) (fun s k=>k [] s) (fun r _ ih s k=>ResultVar.rec (motive:=fun _=>Ans) (fun t=>ih s fun vs s=>k (oT t fr :: vs) s) (fun a t=>bz7 P t (oT a fr) s fun v s=>ih s fun vs s=>k (v :: vs) s) r) rs s k
noncomputable def bBw (l:List Nat) (s:QW) (k:KS):Ans:=List.rec (motive:=fun _=>QW→KS→Ans) (fun s k=>k s) (fun i _ ih s k=>bId i s fun s=>ih s k) l s k
noncomputable def c27 (v:FV):Bool:=FV.rec (motive:=fun _=>Bool) (fun _ _=>true) (fun _=>true) (fun _ _ _=>true) (fun _ _ _ _ _=>true) (fun _=>true) (fun _=>true) (fun _ _ _=>true) (fun _ _ _=>false) (true) (fun _ _ _ _ _ _ _ _ _ _=>true) v
noncomputable def bWn (l:List FV):Bool:=List.rec (motive:=fun _=>Bool) true (fun v _ ih=>Bool.rec (motive:=fun _=>Bool) false ih (c27 v)) l
noncomputable def tupC (l:List FV) (s:QW) (k:KV):Ans:=iff (bWn l) (k (.t (mkT l 0) l.length) s)
noncomputable def c5i (l:List FV) (s:QW) (k:KV):Ans:=match l with
 | [v]=>k v s
 | l=>tupC l s k
noncomputable def bkS (base:Nat) (lg wl:List LE) (k:KV) (v:FV) (s:QW):Ans:=QW.rec (motive:=fun _=>Ans) (fun m nx _ lg' wl'=>k v ⟨m,nx,base,mrg base lg' lg,mrg base wl' wl⟩) s
noncomputable def bRr (fr:FF):List Nat:=FF.rec (motive:=fun _=>List Nat) (fun _ _ m=>m) fr
noncomputable def bEa (P:Program) (rs:List ResultVar) (fr:FF) (s:QW) (k:KV):Ans:=bBw (bRr fr) s fun s=>bTi P fr rs s fun vs s=>c5i vs s k
noncomputable def bTg (P:Program) (rs:List ResultVar) (k:KV) (e:Ex) (fr:FF) (s:QW):Ans:=Ex.rec (motive:=fun _=>Ans) (bEa P rs fr s k) (fun _=>none) (bEa P rs fr s k) e
noncomputable def mkO (l:List FV) (j:Nat) (t:FV):FV:=List.rec (motive:=fun _=>Nat→FV) (fun _=>t) (fun v _ ih j=>bg8 (p4 j) v (ih (Nat.succ j))) l j
noncomputable def bWj (nt:Nat):FV:=Nat.rec (motive:=fun _=>FV) .e (fun j ih=>bg8 (p4 j) .e ih) nt
noncomputable def bGo (nt:Nat) (l:List FV):FV:=mkO l 0 (bWj nt)
noncomputable def bRj (l:List FV):Nat:=List.rec (motive:=fun _=>Nat) 0 (fun _ _ ih=>Nat.succ ih) l
noncomputable def bZ3 (P:Program) (ih:IH) (z:Code×Nat×List ResultVar) (args:List FV) (s:QW) (k:KV):Ans :=
 iff (Nat.ble (bRj args) z.2.1) (QW.rec (motive:=fun _=>Ans) (fun m nx base lg wl=>ih none z.1 ⟨bGo z.2.1 args,z.2.1,[]⟩ ⟨m,nx,dbl nx,[],[]⟩ (bTg P z.2.2 (bkS base lg wl k))) s)
noncomputable def bim (P:Program) (sm:SMF) (ih:IH) (f:Nat) (args:List FV) (s:QW) (k:KV):Ans :=
 Option.rec (motive:=fun _=>Ans) (opt (FT P f) fun z=>bZ3 P ih z args s k) (fun h=>h args s k) (sm f)
noncomputable def bza (ps:List Nat) (vs:List FV) (fr:FF) (s:QW) (k:KF):Ans:=match ps,vs with
 | [],[]=>k fr s
 | p :: ps,v :: vs=>bA9 (some p) fr v s fun fr s=>bza ps vs fr s k
 | _,_=>none
noncomputable def bTe (l:Nat) (k:KV) (e:Ex) (_:FF) (s:QW):Ans:=match e with
 | .normal=>wlC l .ready s fun s=>k (.b true) s
 | e=>wlC l (.done e) s fun s=>k (.b false) s
noncomputable def bZ7 (ih:IH) (l:Nat) (args:List FV) (s:QW) (k:KV):Ans :=
 rlC l s fun fr ps asg body _ s=>bza ps args fr s fun fr s=>ih (some l) asg fr s fun e fr s=>match e with
  | .normal=>rlC l s fun _ _ _ _ st s=>match st with
   | .ready=>wlC l .busy s fun s=>ih (some l) body fr s (bTe l k)
   | _=>none
  | _=>none
noncomputable def bXm (fr:FF):FF:=FF.rec (motive:=fun _=>FF) (fun t nt _=>⟨t,nt,[]⟩) fr
noncomputable def c3h (d:Nat) (fr:FF):FF:=FF.rec (motive:=fun _=>FF) (fun t nt m=>⟨t,nt,d :: m⟩) fr
noncomputable def c5z (rnd:Option Nat) (fr:FF) (ps:List Nat) (asg body:Code) (s:QW) (k:Nat→KF):Ans:=match rnd with
 | some l=>rlC l s fun _ _ _ _ _ s=>bem false (.loop (bXm fr) ps asg body .ready) s fun _ i s=>k i fr s
 | none=>bem false .dfr s fun _ d s=>bem false (.loop (bXm fr) ps asg body .ready) s fun _ i s=>k i (c3h d fr) s
noncomputable def bXj (i:Nat) (s:QW) (k:Ex→QW→Ans):Ans:=rlC i s fun _ _ _ _ st s=>match st with
 | .ready=>wlC i .exhausted s fun s=>k .normal s
 | .done e=>wlC i .exhausted s fun s=>k e s
 | _=>none
abbrev CT:=Program→SMF→IH→Option Nat→FF→QW→KE→Ans
noncomputable def bX7 (b:Code) (ih:IH) (rnd:Option Nat) (k:KE) (e:Ex) (fr:FF) (s:QW):Ans:=Ex.rec (motive:=fun _=>Ans) (ih rnd b fr s k) (fun j=>k (.exit j) fr s) (k .ret fr s) e
noncomputable def jSeq (a b:Code):CT:=fun _ _ ih rnd fr s k=>ih rnd a fr s (bX7 b ih rnd k)
noncomputable def bVe (x:Operand) (a b:Code):CT:=fun _ _ ih rnd fr s k=>FV.rec (motive:=fun _=>Ans→Ans→Ans) (fun _ _=>fun _ _=>none) (fun v y n=>Bool.rec (motive:=fun _=>Ans) n y v) (fun _ _ _=>fun _ _=>none) (fun _ _ _ _ _=>fun _ _=>none) (fun _=>fun _ _=>none) (fun _=>fun _ _=>none) (fun _ _ _=>fun _ _=>none) (fun _ _ _=>fun _ _=>none) (fun _ _=>none) (fun _ _ _ _ _ _ _ _ _ _=>fun _ _=>none) (oV x fr) (ih rnd a fr s k) (ih rnd b fr s k)
noncomputable def cai (i:Nat) (k:KE) (e:Ex) (fr:FF) (s:QW):Ans:=Ex.rec (motive:=fun _=>Ans) (k .normal fr s) (fun j=>Bool.rec (motive:=fun _=>Ans) (k (.exit j) fr s) (k .normal fr s) (Nat.beq j i)) (k .ret fr s) e
noncomputable def c2u (i:Nat) (a:Code):CT:=fun _ _ ih rnd fr s k=>ih rnd a fr s (cai i k)
noncomputable def c97 (a:Code):CT:=fun _ _ ih rnd fr s k=>ih rnd a fr s (bX7 (.loop a) ih rnd k)
noncomputable def bVd (_:Nat) (ops:Array Oper) (draw:Bool):CT:=fun P sm ih _ fr s k=>c5c draw ⟨P,bim P sm ih,bZ7 ih,ops.toList⟩ fr s (k .normal)
noncomputable def rgA (v:AV) (ps:List Nat) (asg body:Code) (P:Program) (sm:SMF) (ih:IH) (rnd:Option Nat) (fr:FF) (s:QW) (k:KE):Ans:=match v with
 | .f fn a cp=>c5z rnd fr ps asg body s fun i fr s=>bim P sm ih fn (bua a (.o (.y i) :: bua cp [])) s fun _ s=>bXj i s fun e s=>k e fr s
 | _=>none
noncomputable def bEm (g:Operand) (ps:Array Nat) (asg body:Code):CT:=fun P sm ih rnd fr s k=>match oV g fr with
 | .o v=>rgA v ps.toList asg body P sm ih rnd fr s k
 | _=>none
noncomputable def baw (P:Program) (sm:SMF) (q:Nat):IH :=
 Nat.rec (motive:=fun _=>IH) (fun _ _ _ _ _=>none) (fun _ ih rnd c fr s k =>
  Code.rec (motive:=fun _=>CT) (fun _ _ _ _ fr s k=>k .normal fr s) bVd (fun a b _ _=>jSeq a b) (fun c a b _ _=>bVe c a b) (fun i a _=>c2u i a) (fun a _=>c97 a) (fun g ps a b _ _=>bEm g ps a b) (fun i _ _ _ _ fr s k=>k (.exit i) fr s)
   (fun _ _ _ _ _ _ _ _ _=>none) (fun _ _ _ _ _ fr s k=>k .normal fr s) (fun _ _ _ _ _ _ _ _=>none) (fun _ _ _ _ fr s k=>k .ret fr s) (fun _ _ _ _ _ _ _ _=>none) c P sm ih rnd fr s k) q
noncomputable def endK (v:FV) (s:QW):Ans:=some (v,s)
noncomputable def evF (P:Program) (sm:SMF) (q k:Nat) (args:List FV) (s:QW):Ans:=bim P sm (baw P sm q) k args s endK
end V
end Go.CE
namespace Go.CE
namespace V
variable [Sym] [avd]
theorem buz:∀ (l:List FV) (o j:Nat),aRb (p4 j) (mkT l o)=if o≤j then (l[j - o]?).getD .e else .e
 | [],o,j=>by show aRb (p4 j) .e=_;rw [bi7];simp
 | v :: l,o,j=>by
  show aRb (p4 j) (bg8 (p4 o) v (mkT l (o+1)))=_
  by_cases h:j=o
  ·subst h;rw [bxc];simp
  ·rw [bko _ _ _ _ (bL6 h),buz l (o+1) j]
   by_cases h1:o+1≤j
   ·rw [if_pos h1,if_pos (by omega)]
    rw [show j - o=(j - (o+1))+1 by omega]
    rfl
   ·rw [if_neg h1,if_neg (by omega)]
theorem azk (j k:Nat) (v t:FV):aRb (p4 j) (bg8 (p4 k) v t)=if j=k then v else aRb (p4 j) t:=by
 by_cases h:j=k
 ·subst h;rw [if_pos rfl,bxc]
 ·rw [if_neg h,bko _ _ _ _ (bL6 h)]
theorem bxf (j k:Nat) (v:FB) (t:FM):getM (p4 j) (bir (p4 k) v t)=if j=k then v else getM (p4 j) t:=by
 by_cases h:j=k
 ·subst h;rw [if_pos rfl,bxd]
 ·rw [if_neg h,bkp _ _ _ _ (bL6 h)]
theorem bvd (k:IntKind):∀ n:Int,bbo (ofI k n)=.i k n
 | .ofNat _=>rfl
 | .negSucc _=>rfl
theorem bDe (k:IntKind):∀ n:Int,ba7 (ofI k n)
 | .ofNat _=>trivial
 | .negSucc _=>rfl
theorem bGz (v:AV) (h:sc v=true):bbo (of0 v)=v:=by
 cases v with
 | i k n=>exact bvd k n
 | p a=>rcases a with _ | ⟨k,o⟩<;>rfl
 | sl a n c=>rcases a with _ | ⟨k,o⟩<;>rfl
 | _=>first | rfl | (simp [sc] at h)
theorem bPv (v:AV) (h:sc v=true):ba7 (of0 v):=by
 cases v with
 | i k n=>exact bDe k n
 | p a=>rcases a with _ | ⟨k,o⟩<;>first | trivial | rfl
 | sl a n c=>rcases a with _ | ⟨k,o⟩<;>first | trivial | rfl
 | _=>first | trivial | rfl | (simp [sc] at h)
theorem bsx:∀ {v:FV},ba7 v→bfc v=bbo v∧okG v
 | .i _ _,h=>⟨rfl,h⟩
 | .b _,h=>⟨rfl,h⟩
 | .p _ _ _,h=>⟨rfl,h⟩
 | .s _ _ _ _ _,h=>⟨rfl,h⟩
 | .o _,h=>⟨rfl,h⟩
theorem bsw:∀ {v:FV},okG v→b8x v=bfc v∧okV v
 | .i _ _,h=>⟨rfl,h⟩
 | .b _,h=>⟨rfl,h⟩
 | .p _ _ _,h=>⟨rfl,h⟩
 | .s _ _ _ _ _,h=>⟨rfl,h⟩
 | .o _,h=>⟨rfl,h⟩
 | .w _,h=>⟨rfl,h⟩
 | .g _ _,h=>⟨rfl,h⟩
 | .e,h=>⟨rfl,h⟩
theorem bha {v:FV} (h:ba7 v):b8x v=bbo v∧okV v:=by
 have h1:=bsx h
 have h2:=bsw h1.2
 exact ⟨h2.1.trans h1.1,h2.2⟩
theorem bh8:∀ {l:List AV},aRg l=true→∀ v∈l,sc v=true
 | [],_,v,hv=>by simp at hv
 | x :: l,h,v,hv=>by
  unfold aRg at h
  cases hx:sc x with
  | false=>simp [hx] at h
  | true =>
   simp [hx] at h
   rcases List.mem_cons.mp hv with rfl | hv
   ·exact hx
   ·exact bh8 h v hv
theorem beo:∀ {l:List AV},(∀ v∈l,sc v=true)→aRg l=true
 | [],_=>rfl
 | x :: l,h=>by
  unfold aRg
  rw [h x (by simp)]
  exact beo fun v hv=>h v (by simp [hv])
theorem avg (t:FV) (o n:Nat):(ajn t o n).length=n:=by simp [ajn]
theorem avc (t:FV) (o n j:Nat):(ajn t o n)[j]? = if j < n then some (bbo (aRb (p4 (o+j)) t)) else none:=by
 unfold ajn
 by_cases h:j < n
 ·rw [if_pos h];simp [h]
 ·rw [if_neg h];simp;omega
theorem be7 {t:FV} {n:Nat} (h:b9f t n):aRg (ajn t 0 n)=true:=beo fun v hv=>by
 unfold ajn at hv
 obtain ⟨j,hj,rfl⟩:=List.mem_map.mp hv
 rw [Nat.zero_add]
 exact btk (h j (List.mem_range.mp hj))
theorem bzt {t u:FV} {n:Nat} (h:∀ j,j < n→aRb (p4 j) t=aRb (p4 j) u):ajn t 0 n=ajn u 0 n:=by
 apply List.ext_getElem?
 intro j
 rw [avc,avc]
 by_cases hj:j < n
 ·rw [if_pos hj,if_pos hj,Nat.zero_add,h j hj]
 ·rw [if_neg hj,if_neg hj]
theorem aRh (l:List AV) (h:aRg l=true):ajn (mkT (l.map of0) 0) 0 l.length=l∧b9f (mkT (l.map of0) 0) l.length:=by
 have hg:∀ j (hj:j < l.length),aRb (p4 j) (mkT (l.map of0) 0)=of0 l[j]:=fun j hj=>by
  rw [buz];simp [hj]
 constructor
 ·apply List.ext_getElem
  ·simp [ajn]
  ·intro j h1 h2
   simp only [ajn,List.getElem_map,List.getElem_range,Nat.zero_add]
   rw [hg j h2]
   exact bGz _ (bh8 h _ (List.getElem_mem h2))
 ·intro j hj
  rw [hg j hj]
  exact bPv _ (bh8 h _ (List.getElem_mem hj))
theorem bat (v:AV) (h:sc v=true):bfc (of0 v)=v∧okG (of0 v):=by
 have:=bsx (bPv v h)
 exact ⟨this.1.trans (bGz v h),this.2⟩
theorem bve (v:AV):bfc (ofG v)=v∧okG (ofG v):=by
 cases v with
 | g cs =>
  cases h:aRg cs with
  | true =>
   have hc:=aRh cs h
   have e:ofG (.g cs)=.g (mkT (cs.map of0) 0) cs.length:=by simp only [ofG,h]
   rw [e]
   exact ⟨by show AV.g _=_;rw [hc.1],hc.2⟩
  | false =>
   have e:ofG (.g cs)=.w (.g cs):=by simp only [ofG,h]
   rw [e]
   exact ⟨rfl,rfl⟩
 | t vs=>exact ⟨rfl,rfl⟩
 | u=>exact ⟨rfl,trivial⟩
 | bad=>exact ⟨rfl,rfl⟩
 | b x0=>exact bat (.b x0) rfl
 | i x0 x1=>exact bat (.i x0 x1) rfl
 | s x0=>exact bat (.s x0) rfl
 | p x0=>exact bat (.p x0) rfl
 | sl x0 x1 x2=>exact bat (.sl x0 x1 x2) rfl
 | se=>exact bat (.se) rfl
 | m x0=>exact bat (.m x0) rfl
 | f x0 x1 x2=>exact bat (.f x0 x1 x2) rfl
 | y x0=>exact bat (.y x0) rfl
 | nf=>exact bat (.nf) rfl
 | x x0 x1=>exact bat (.x x0 x1) rfl
theorem bB9 (l:List FV) (h:∀ v∈l,okG v):b8x (.t (mkT l 0) l.length)=.t (l.map bfc)∧okV (.t (mkT l 0) l.length):=by
 have hg:∀ j (hj:j < l.length),aRb (p4 j) (mkT l 0)=l[j]:=fun j hj=>by
  rw [buz];simp [hj]
 constructor
 ·show AV.t _=AV.t _
  congr 1
  apply List.ext_getElem
  ·simp
  ·intro j h1 h2
   simp only [List.getElem_map,List.getElem_range]
   rw [hg j (by simpa using h2)]
 ·intro j hj
  rw [hg j hj]
  exact h _ (List.getElem_mem hj)
theorem bpb (v:AV):b8x (ofV v)=v∧okV (ofV v):=by
 have gen:∀ v:AV,ofV v=ofG v→b8x (ofV v)=v∧okV (ofV v):=fun v e=>by
  rw [e]
  have h:=bve v
  have h2:=bsw h.2
  exact ⟨h2.1.trans h.1,h2.2⟩
 cases v with
 | t vs =>
  have:=bB9 (vs.map ofG) (fun v hv=>by obtain ⟨a,_,rfl⟩:=List.mem_map.mp hv;exact (bve a).2)
  rw [List.length_map] at this
  refine ⟨this.1.trans ?_,this.2⟩
  rw [List.map_map]
  have e:(bfc ∘ ofG)=id:=funext fun a=>(bve a).1
  rw [e,List.map_id]
 | _=>exact gen _ rfl
def Ok {α β:Type} (B:Nat) (R:α→β→Prop) (x:(β→QW→Ans)→Ans) (y:Option (α×St)):Prop :=
 ∀ k r,x k=some r→∃ b f a s,y=some (a,s)∧R a b∧RS B s f∧k b f=some r
def RV (a:AV) (v:FV):Prop:=a=b8x v∧okV v
theorem bC2 (v:AV):RV v (ofV v):=⟨(bpb v).1.symm,(bpb v).2⟩
theorem bns {v:FV} (h:ba7 v):RV (bbo v) v:=⟨(bha h).1.symm,(bha h).2⟩
section
variable {α β γ δ:Type} {B:Nat} {R:α→β→Prop} {S:γ→δ→Prop}
theorem Ok.ret {b:β} {f:QW} {a:α} {s:St} (h:R a b) (hs:RS B s f):Ok B R (fun k=>k b f) (some (a,s)):=fun _ _ hk=>⟨b,f,a,s,rfl,h,hs,hk⟩
theorem Ok.none {y:Option (α×St)}:Ok B R (fun _=>none) y:=fun _ _ hk=>by cases hk
theorem Ok.bnd {x:(β→QW→Ans)→Ans} {y:X α} {s:St} {g:β→QW→(δ→QW→Ans)→Ans} {h:α→X γ} (hx:Ok B R x (y s))
  (hg:∀ b f a s,R a b→RS B s f→Ok B S (g b f) (h a s)):Ok B S (fun k=>x fun b f=>g b f k) (CE.bnd y h s):=fun k r hk=>by
 obtain ⟨b,f,a,s',e,h1,h2,h3⟩:=hx _ r hk
 obtain ⟨d,f',c,s'',e',h4,h5,h6⟩:=hg b f a s' h1 h2 k r h3
 refine ⟨d,f',c,s'',?_,h4,h5,h6⟩
 unfold CE.bnd;rw [e];exact e'
theorem Ok.eq {x:(β→QW→Ans)→Ans} {y z:Option (α×St)} (h:Ok B R x y) (e:y=z):Ok B R x z:=e ▸ h
theorem Ok.iff {x:(β→QW→Ans)→Ans} {y:Option (α×St)} {c:Bool} (h:c=true→Ok B R x y):Ok B R (fun k=>V.iff c (x k)) y:=by
 cases c with
 | false=>exact Ok.none
 | true=>exact h rfl
theorem Ok.opt {ε:Type} {o:Option ε} {x:ε→(β→QW→Ans)→Ans} {y:Option (α×St)} (h:∀ a,o=some a→Ok B R (x a) y):Ok B R (fun k=>V.opt o fun a=>x a k) y:=by
 cases o with
 | none=>exact Ok.none
 | some a=>exact h a rfl
theorem Ok.chk {x:(β→QW→Ans)→Ans} {c:Bool} {h:Unit→X α} {s:St} (hc:c=true) (hx:Ok B R x (h () s)):Ok B R x (CE.bnd (CE.chk c) h s):=by
 rw [hc];exact hx
theorem Ok.lift {x:(β→QW→Ans)→Ans} {o:Option γ} {c:γ} {h:γ→X α} {s:St} (hc:o=some c) (hx:Ok B R x (h c s)):Ok B R x (CE.bnd (CE.lift o) h s):=by
 rw [hc];exact hx
theorem Ok.mono {x:(β→QW→Ans)→Ans} {y:Option (α×St)} {R':α→β→Prop} (h:Ok B R x y) (hr:∀ a b,R a b→R' a b):Ok B R' x y:=fun k r hk=>by
 obtain ⟨b,f,a,s,e,h1,h2,h3⟩:=h k r hk
 exact ⟨b,f,a,s,e,hr _ _ h1,h2,h3⟩
end
theorem bps (f:Nat→Ans) (n:Nat):strict f n=f n:=by cases n<;>rfl
end V
end Go.CE
namespace Go.CE
namespace V
variable [Sym] [avd]
theorem bqm {α:Type}:∀ (l vs:List α),vs.length≤l.length→∃ r,over l vs=some r
 | l,[],_=>⟨l,by cases l<;>rfl⟩
 | [],_ :: _,h=>by simp at h
 | _ :: l,v :: vs,h=>by
  obtain ⟨r,e⟩:=bqm l vs (by simpa using h)
  exact ⟨v :: r,by unfold over;rw [e]⟩
theorem bm3 {α:Type}:∀ (l:List α) (o:Nat) (vs:List α),o+vs.length≤l.length→∃ r,setAt l o vs=some r
 | l,0,vs,h=>by
  obtain ⟨r,e⟩:=bqm l vs (by omega)
  exact ⟨r,by cases l<;>(unfold setAt;exact e)⟩
 | [],o+1,vs,h=>by simp at h
 | x :: l,o+1,vs,h=>by
  obtain ⟨r,e⟩:=bm3 l o vs (by simp at h;omega)
  exact ⟨x :: r,by unfold setAt;rw [e]⟩
theorem bF2 (t:FV) (o:Nat):∀ (n j:Nat),aRb (p4 j) (exT t o n)=if j < n then aRb (p4 (o+j)) t else .e
 | 0,j=>by show aRb (p4 j) .e=_;rw [bi7,if_neg (by omega)]
 | n+1,j=>by
  show aRb (p4 j) (bg8 (p4 n) (aRb (p4 (o+n)) t) (exT t o n))=_
  rw [azk,bF2 t o n j]
  by_cases h:j=n
  ·subst h;rw [if_pos rfl,if_pos (by omega)]
  ·rw [if_neg h]
   by_cases h2:j < n
   ·rw [if_pos h2,if_pos (by omega)]
   ·rw [if_neg h2,if_neg (by omega)]
theorem bxb (t:FV) (o n j:Nat) (h:j < n):aRb (p4 j) (bI9 t o n)=aRb (p4 (o+j)) t:=by
 unfold bI9
 cases e:Nat.beq o 0 with
 | false=>show aRb (p4 j) (exT t o n)=_;rw [bF2,if_pos h]
 | true=>have:=be1 e;subst this;show aRb (p4 j) t=_;rw [Nat.zero_add]
theorem bkq (t v:FV) (o:Nat):∀ (n j:Nat),aRb (p4 j) (ovT t v o n)=if o≤j∧j < o+n then aRb (p4 (j - o)) v else aRb (p4 j) t
 | 0,j=>by show aRb (p4 j) t=_;rw [if_neg (by omega)]
 | n+1,j=>by
  show aRb (p4 j) (bg8 (p4 (o+n)) (aRb (p4 n) v) (ovT t v o n))=_
  rw [azk,bkq t v o n j]
  by_cases h:j=o+n
  ·subst h;rw [if_pos rfl,if_pos (by omega),show o+n - o=n by omega]
  ·rw [if_neg h]
   by_cases h2:o≤j∧j < o+n
   ·rw [if_pos h2,if_pos (by omega)]
   ·rw [if_neg h2,if_neg (by omega)]
theorem bop (t v:FV) (o n N j:Nat) (h:j < N):aRb (p4 j) (bUe t v o n N)=if o≤j∧j < o+n then aRb (p4 (j - o)) v else aRb (p4 j) t:=by
 unfold bUe
 cases e:Nat.beq o 0 with
 | false=>exact bkq t v o n j
 | true =>
  have:=be1 e;subst this
  cases e2:Nat.beq n N with
  | false=>exact bkq t v 0 n j
  | true=>have:=be1 e2;subst this;show aRb (p4 j) v=_;rw [if_pos (by omega),Nat.sub_zero]
theorem bgz {t:FV} {N o n:Nat} (h:o+n≤N):cut (ajn t 0 N) o n=some (ajn t o n):=by
 have e:((ajn t 0 N).drop o).take n=ajn t o n:=by
  apply List.ext_getElem?
  intro j
  rw [List.getElem?_take]
  by_cases hj:j < n
  ·rw [if_pos hj,List.getElem?_drop,avc,avc,if_pos (by omega),if_pos hj];simp
  ·rw [if_neg hj,avc,if_neg hj]
 unfold cut
 simp only [e,avg,bja]
theorem bsh {t:FV} {o n:Nat}:ajn (bI9 t o n) 0 n=ajn t o n:=by
 apply List.ext_getElem?
 intro j
 rw [avc,avc]
 by_cases hj:j < n
 ·rw [if_pos hj,if_pos hj,Nat.zero_add,bxb _ _ _ _ hj]
 ·rw [if_neg hj,if_neg hj]
theorem bPq {t:FV} {o n N:Nat} (h:b9f t N) (hn:o+n≤N):b9f (bI9 t o n) n:=fun j hj=>by
 rw [bxb _ _ _ _ hj];exact h _ (by omega)
theorem bfv {t v:FV} {o n N:Nat} (h:o+n≤N):setAt (ajn t 0 N) o (ajn v 0 n)=some (ajn (bUe t v o n N) 0 N):=by
 obtain ⟨r,e⟩:=bm3 (ajn t 0 N) o (ajn v 0 n) (by rw [avg,avg];exact h)
 rw [e]
 congr 1
 apply List.ext_getElem?
 intro j
 rw [bcx e j,avg,avc,avc,avc]
 by_cases hj:j < N
 ·rw [if_pos hj,if_pos hj]
  simp only [Nat.zero_add]
  rw [bop _ _ _ _ _ _ hj]
  by_cases h2:o≤j∧j < o+n
  ·rw [if_pos h2,if_pos h2,if_pos (by omega)]
  ·rw [if_neg h2,if_neg h2]
 ·rw [if_neg hj,if_neg hj,if_neg (by omega)]
theorem bPt {t v:FV} {o n N:Nat} (h:b9f t N) (hv:b9f v n) (hn:o+n≤N):b9f (bUe t v o n N) N:=fun j hj=>by
 rw [bop _ _ _ _ _ _ hj]
 by_cases h2:o≤j∧j < o+n
 ·rw [if_pos h2];exact hv _ (by omega)
 ·rw [if_neg h2];exact h _ hj
theorem cells_one (v:FV):ajn (bg8 (p4 0) v .e) 0 1 = [bbo v]:=by
 apply List.ext_getElem?
 intro j
 rw [avc]
 by_cases hj:j < 1
 ·have:j=0:=by omega
  subst this
  rw [if_pos hj,Nat.zero_add,azk,if_pos rfl];rfl
 ·rw [if_neg hj]
  cases j with
  | zero=>omega
  | succ j=>rfl
theorem ok_one {v:FV} (h:ba7 v):b9f (bg8 (p4 0) v .e) 1:=fun j hj=>by
 have:j=0:=by omega
 subst this
 rw [azk,if_pos rfl];exact h
theorem bpx {t v:FV} {o N:Nat} (h:o+1≤N):setAt (ajn t 0 N) o [bbo v]=some (ajn (bg8 (p4 o) v t) 0 N):=by
 rw [← cells_one v,bfv h]
 congr 1
 apply bzt
 intro j hj
 rw [bop _ _ _ _ _ _ hj,azk j o]
 by_cases h2:j=o
 ·subst h2;rw [if_pos (by omega),Nat.sub_self,azk,if_pos rfl,if_pos rfl]
 ·rw [if_neg (by omega),if_neg h2]
theorem bPs {t v:FV} {o N:Nat} (h:b9f t N) (hv:ba7 v):b9f (bg8 (p4 o) v t) N:=fun j hj=>by
 rw [azk]
 by_cases h2:j=o
 ·rw [if_pos h2];exact hv
 ·rw [if_neg h2];exact h j hj
theorem _root_.Go.CE.CL.log {B:Nat} {l q:List LE} (h:CL B l q) (e:LE):CL B (e :: l) (bf5 B e.k e q):=fun x hx=>by
 unfold bf5
 cases hb:Nat.ble B e.k with
 | true =>
  rcases List.mem_cons.mp hx with rfl | hx
  ·exact .inl (bbm hb)
  ·exact h x hx
 | false =>
  rcases List.mem_cons.mp hx with rfl | hx
  ·exact .inr (List.mem_cons_self)
  ·rcases h x hx with h1 | h1
   ·exact .inl h1
   ·exact .inr (List.mem_cons_of_mem _ h1)
theorem _root_.Go.CE.CL.new {B:Nat} {l q:List LE} (h:CL B l q) (e:LE) (he:B≤e.k):CL B (e :: l) q:=fun x hx=>by
 rcases List.mem_cons.mp hx with rfl | hx
 ·exact .inl he
 ·exact h x hx
section
variable {B:Nat} {m:Tr AB} {n n':Nat} {l w:List LE} {fm:FM} {nx base:Nat} {lg wl:List LE}
theorem bl8 {l:List LE} {e:LE} {c:Nat} (he:e.k < c) (h:∀ e∈l,e.k < c):∀ x∈e :: l,x.k < c:=fun x hx=>by
 rcases List.mem_cons.mp hx with rfl | hx
 ·exact he
 ·exact h x hx
theorem _root_.Go.CE.RS.log (hs:RS B ⟨m,n,l,w⟩ ⟨fm,nx,base,lg,wl⟩) (e:LE) (he:e.k < 2 * n):RS B ⟨m,n,e :: l,w⟩ ⟨fm,nx,base,bf5 base e.k e lg,wl⟩:=by
 have hb:base=B:=hs.base
 subst hb
 exact ⟨hs.nx,rfl,hs.low,hs.lg.log e,hs.wl,hs.m,bl8 he hs.bd,hs.bw,hs.mb⟩
theorem mem_set (hm:∀ k,RB (m.get k) (getM (p4 k) fm)) (i:Nat) {x:Option AB} {y:FB} (h:RB x y):∀ k,RB ((m.set i x).get k) (getM (p4 k) (bir (p4 i) y fm)):=fun k=>by
 rw [Tr.azk,bxf]
 by_cases h1:k=i
 ·rw [if_pos h1,if_pos h1];exact h
 ·rw [if_neg h1,if_neg h1];exact hm k
theorem bRg {c:Nat} (hm:∀ k x,m.get k=some x→k < c) {i:Nat} (hi:i < c) (v:Option AB):∀ k x,(m.set i v).get k=some x→k < c:=fun k x h=>by
 rw [Tr.azk] at h
 by_cases h1:k=i
 ·subst h1;exact hi
 ·rw [if_neg h1] at h;exact hm k x h
theorem _root_.Go.CE.RS.write (hs:RS B ⟨m,n,l,w⟩ ⟨fm,nx,base,lg,wl⟩) (e:LE) (he:e.k < 2 * n) {x:Option AB} {y:FB} (h:RB x y):RS B ⟨m.set e.k x,n,e :: l,e :: w⟩ ⟨bir (p4 e.k) y fm,nx,base,bf5 base e.k e lg,bf5 base e.k e wl⟩:=by
 have hb:base=B:=hs.base
 subst hb
 exact ⟨hs.nx,rfl,hs.low,hs.lg.log e,hs.wl.log e,mem_set hs.m _ h,bl8 he hs.bd,bl8 he hs.bw,bRg hs.mb he _⟩
end
variable {B:Nat} {s:St} {f:QW}
theorem c0q (hs:RS B s f) (i o:Nat):Ok B (fun l v=>l = [bbo v]∧ba7 v) (c83 (p4 i) i o f) (rdK i o 1 s):=fun k r hk=>by
 obtain ⟨m,n,l,w⟩:=s
 obtain ⟨fm,nx,base,lg,wl⟩:=f
 have hm:=hs.m i
 dsimp only at hm
 change c82 fm nx base lg wl (p4 i) i o k=some r at hk
 unfold c82 at hk
 unfold rdK
 dsimp only
 generalize getM (p4 i) fm=b at hm hk
 generalize hmi:m.get i=a at hm
 cases hm with
 | cells t N T hok =>
  change V.iff (Nat.ble (o+1) N) (k (aRb (p4 o) t) ⟨fm,nx,base,bf5 base i ⟨i,o,1,false⟩ lg,wl⟩)=some r at hk
  cases hb:Nat.ble (o+1) N with
  | false=>rw [hb] at hk;cases hk
  | true =>
   rw [hb] at hk
   dsimp only
   rw [bgz (bbm hb)]
   refine ⟨_,_,_,_,rfl,?_,hs.log ⟨i,o,1,false⟩ (hs.mb i _ hmi),hk⟩
   refine ⟨?_,hok o (bbm hb)⟩
   simp [ajn]
 | _=>cases hk
theorem bd0 (hs:RS B s f) (i o c:Nat):Ok B (fun l v => ∃ t,v=.g t c∧l=ajn t 0 c∧b9f t c) (bnv (p4 i) i o c f) (rdK i o c s):=fun k r hk=>by
 obtain ⟨m,n,l,w⟩:=s
 obtain ⟨fm,nx,base,lg,wl⟩:=f
 have hm:=hs.m i
 dsimp only at hm
 change c7y fm nx base lg wl (p4 i) i o c k=some r at hk
 unfold c7y at hk
 unfold rdK
 dsimp only
 generalize getM (p4 i) fm=b at hm hk
 generalize hmi:m.get i=a at hm
 cases hm with
 | cells t N T hok =>
  change V.iff (Nat.ble (o+c) N) (k (.g (bI9 t o c) c) ⟨fm,nx,base,bf5 base i ⟨i,o,c,false⟩ lg,wl⟩)=some r at hk
  cases hb:Nat.ble (o+c) N with
  | false=>rw [hb] at hk;cases hk
  | true =>
   rw [hb] at hk
   dsimp only
   rw [bgz (bbm hb)]
   exact ⟨_,_,_,_,rfl,⟨_,rfl,bsh.symm,bPq hok (bbm hb)⟩,hs.log ⟨i,o,c,false⟩ (hs.mb i _ hmi),hk⟩
 | _=>cases hk
def OkS (B:Nat) (x:(QW→Ans)→Ans) (y:Option (Unit×St)):Prop:=∀ k r,x k=some r→∃ f s,y=some ((),s)∧RS B s f∧k f=some r
theorem OkS.bnd {α β:Type} {R:α→β→Prop} {x:(QW→Ans)→Ans} {y:X Unit} {g:QW→(β→QW→Ans)→Ans} {h:Unit→X α} (hx:OkS B x (y s))
  (hg:∀ f s,RS B s f→Ok B R (g f) (h () s)):Ok B R (fun k=>x fun f=>g f k) (CE.bnd y h s):=fun k r hk=>by
 obtain ⟨f,s',e,h1,h2⟩:=hx _ r hk
 obtain ⟨d,f',c,s'',e',h4,h5,h6⟩:=hg f s' h1 k r h2
 refine ⟨d,f',c,s'',?_,h4,h5,h6⟩
 unfold CE.bnd;rw [e];exact e'
theorem c0l (hs:RS B s f) (i o:Nat) {v:FV} (hv:ba7 v):OkS B (wr1C (p4 i) i o v f) (wrK i o [bbo v] s):=fun k r hk=>by
 obtain ⟨m,n,l,w⟩:=s
 obtain ⟨fm,nx,base,lg,wl⟩:=f
 have hm:=hs.m i
 dsimp only at hm
 change c6z fm nx base lg wl (p4 i) i o v k=some r at hk
 unfold c6z at hk
 unfold wrK
 dsimp only
 cases hro:Nat.ble 2048 i with
 | false=>rw [hro] at hk;cases hk
 | true =>
  rw [hro] at hk
  have c9e:Nat.ble roB i=true:=hro
  rw [c9e]
  generalize getM (p4 i) fm=b at hm hk
  generalize hmi:m.get i=a at hm
  cases hm with
  | cells t N T hok =>
   change V.iff (Nat.ble (o+1) N) (k ⟨bir (p4 i) (.cells (bg8 (p4 o) v t) N T) fm,nx,base,bf5 base i ⟨i,o,1,false⟩ lg,bf5 base i ⟨i,o,1,false⟩ wl⟩)=some r at hk
   cases hb:Nat.ble (o+1) N with
   | false=>rw [hb] at hk;cases hk
   | true =>
    rw [hb] at hk
    dsimp only
    rw [bpx (bbm hb)]
    refine ⟨_,_,rfl,hs.write ⟨i,o,1,false⟩ (hs.mb i _ hmi) (.cells _ N T (bPs hok hv)),hk⟩
  | _=>cases hk
theorem bD8 (hs:RS B s f) (i o c:Nat) {v:FV} (hv:b9f v c):OkS B (bSa (p4 i) i o v c f) (wrK i o (ajn v 0 c) s):=fun k r hk=>by
 obtain ⟨m,n,l,w⟩:=s
 obtain ⟨fm,nx,base,lg,wl⟩:=f
 have hm:=hs.m i
 dsimp only at hm
 change c6x fm nx base lg wl (p4 i) i o v c k=some r at hk
 unfold c6x at hk
 unfold wrK
 dsimp only
 cases hro:Nat.ble 2048 i with
 | false=>rw [hro] at hk;cases hk
 | true =>
  rw [hro] at hk
  have c9e:Nat.ble roB i=true:=hro
  rw [c9e]
  generalize getM (p4 i) fm=b at hm hk
  generalize hmi:m.get i=a at hm
  cases hm with
  | cells t N T hok =>
   change V.iff (Nat.ble (o+c) N) (k ⟨bir (p4 i) (.cells (bUe t v o c N) N T) fm,nx,base,bf5 base i ⟨i,o,c,false⟩ lg,bf5 base i ⟨i,o,c,false⟩ wl⟩)=some r at hk
   cases hb:Nat.ble (o+c) N with
   | false=>rw [hb] at hk;cases hk
   | true =>
    rw [hb] at hk
    dsimp only
    rw [bfv (bbm hb),avg]
    refine ⟨_,_,rfl,hs.write ⟨i,o,c,false⟩ (hs.mb i _ hmi) (.cells _ N T (bPt hok hv (bbm hb))),hk⟩
  | _=>cases hk
theorem bDf (hs:RS B s f) (g:Bool) {x:AB} {y:FB} (h:RB (some x) y):∀ (k:P4→Nat→QW→Ans) r,bem g y f k=some r→∃ i f' s',ba9 g x s=some (i,s')∧RS B s' f'∧k (p4 i) i f' = some r:=fun k r hk=>by
 obtain ⟨m,n,l,w⟩:=s
 obtain ⟨fm,nx,base,lg,wl⟩:=f
 change nwa fm nx base lg wl g y k=some r at hk
 unfold nwa at hk
 rw [bps,bps] at hk
 have hn:n=nx:=hs.nx
 subst hn
 have hid:Bool.rec (motive:=fun _=>Nat) (Nat.mul 2 n) (Nat.succ (Nat.mul 2 n)) g=b61 g n:=by cases g<;>rfl
 rw [hid] at hk
 refine ⟨b61 g n,_,_,rfl,?_,hk⟩
 have hb:base=B:=hs.base
 subst hb
 have low:base≤2 * n:=hs.low
 have hk2:base≤b61 g n:=by cases g<;>(unfold b61;dsimp only;omega)
 have hk3:b61 g n < 2 * (n+1):=by cases g<;>(unfold b61;dsimp only;omega)
 have up:∀ j,j < 2 * n→j < 2 * (n+1):=fun j h=>by omega
 refine ⟨rfl,rfl,by dsimp only;omega,CL.new hs.lg _ hk2,CL.new hs.wl _ hk2,mem_set hs.m _ h,bl8 hk3 fun e he=>up _ (hs.bd e he),bl8 hk3 fun e he=>up _ (hs.bw e he),bRg (fun k x h=>up _ (hs.mb k x h)) hk3 _⟩
theorem bUs (hs:RS B s f) (i:Nat):OkS B (c2s (p4 i) i f) (blu i s):=fun k r hk=>by
 obtain ⟨m,n,l,w⟩:=s
 obtain ⟨fm,nx,base,lg,wl⟩:=f
 have hm:=hs.m i
 dsimp only at hm
 change kla fm nx base lg wl (p4 i) i k=some r at hk
 unfold kla at hk
 generalize getM (p4 i) fm=b at hm hk
 generalize hmi:m.get i=a at hm
 cases hm with
 | cells t N T hok=>exact ⟨_,_,rfl,hs.write (whole i) (hs.mb i _ hmi) .no,hk⟩
 | _=>cases hk
theorem bwh (hs:RS B s f) (i:Nat):Ok B (fun a b=>a=b) (bXd (p4 i) i f) (rdT i s):=fun k r hk=>by
 obtain ⟨m,n,l,w⟩:=s
 obtain ⟨fm,nx,base,lg,wl⟩:=f
 have hm:=hs.m i
 dsimp only at hm
 change rta fm nx base lg wl (p4 i) i k=some r at hk
 unfold rta at hk
 unfold rdT
 dsimp only
 generalize getM (p4 i) fm=b at hm hk
 generalize hmi:m.get i=a at hm
 cases hm with
 | cells t N T hok=>exact ⟨_,_,_,_,rfl,rfl,hs.log ⟨i,0,0,false⟩ (hs.mb i _ hmi),hk⟩
 | _=>cases hk
theorem bDa (hs:RS B s f) (i:Nat):Ok B (fun a (b:ME×Nat)=>a=b) (fun k=>rmC i f fun es c s=>k (es,c) s) (rdM i s):=fun k r hk=>by
 obtain ⟨m,n,l,w⟩:=s
 obtain ⟨fm,nx,base,lg,wl⟩:=f
 have hm:=hs.m i
 dsimp only at hm
 unfold rmC at hk
 unfold rdM
 dsimp only at hk ⊢
 generalize getM (p4 i) fm=b at hm hk
 generalize hmi:m.get i=a at hm
 cases hm with
 | map es c=>exact ⟨_,_,_,_,rfl,rfl,hs.log ⟨i,0,0,false⟩ (hs.mb i _ hmi),hk⟩
 | _=>cases hk
theorem c0j (hs:RS B s f) (i:Nat) (es:ME) (c:Nat):OkS B (wmC i es c f) (wrM i es c s):=fun k r hk=>by
 obtain ⟨m,n,l,w⟩:=s
 obtain ⟨fm,nx,base,lg,wl⟩:=f
 have hm:=hs.m i
 dsimp only at hm
 unfold wmC at hk
 unfold wrM
 dsimp only at hk ⊢
 generalize getM (p4 i) fm=b at hm hk
 generalize hmi:m.get i=a at hm
 cases hro:Nat.ble roB i with
 | false=>rw [hro] at hk;cases hk
 | true =>
  rw [hro] at hk
  cases hm with
  | map es' c'=>exact ⟨_,_,rfl,hs.write (whole i) (hs.mb i _ hmi) (.map es c),hk⟩
  | _=>cases hk
theorem bUo (hs:RS B s f) (i:Nat):OkS B (bId i f) (bjr i s):=fun k r hk=>by
 obtain ⟨m,n,l,w⟩:=s
 obtain ⟨fm,nx,base,lg,wl⟩:=f
 have hm:=hs.m i
 dsimp only at hm
 unfold bId at hk
 unfold bjr
 dsimp only at hk ⊢
 generalize getM (p4 i) fm=b at hm hk
 generalize hmi:m.get i=a at hm
 cases hro:Nat.ble roB i with
 | false=>rw [hro] at hk;cases hk
 | true =>
  rw [hro] at hk
  cases hm with
  | dfr=>exact ⟨_,_,rfl,hs.write (whole i) (hs.mb i _ hmi) .no,hk⟩
  | _=>cases hk
theorem bwi (hs:RS B s f) (i:Nat):Ok B (fun (a:Fr×List Nat×Code×Code×LS) (b:FF×List Nat×Code×Code×LS)=>RF a.1 b.1∧a.2=b.2) (fun k=>rlC i f fun fr ps x y st s=>k (fr,ps,x,y,st) s) (rdL i s):=fun k r hk=>by
 obtain ⟨m,n,l,w⟩:=s
 obtain ⟨fm,nx,base,lg,wl⟩:=f
 have hm:=hs.m i
 dsimp only at hm
 unfold rlC at hk
 unfold rdL
 dsimp only at hk ⊢
 generalize getM (p4 i) fm=b at hm hk
 generalize hmi:m.get i=a at hm
 cases hm with
 | loop a f ps x y st hf=>exact ⟨_,_,_,_,rfl,⟨hf,rfl⟩,hs.log ⟨i,0,0,false⟩ (hs.mb i _ hmi),hk⟩
 | _=>cases hk
theorem bmh (hs:RS B s f) (i:Nat) (st:LS):OkS B (wlC i st f) (wrL i st s):=fun k r hk=>by
 obtain ⟨m,n,l,w⟩:=s
 obtain ⟨fm,nx,base,lg,wl⟩:=f
 have hm:=hs.m i
 dsimp only at hm
 unfold wlC at hk
 unfold wrL
 dsimp only at hk ⊢
 generalize getM (p4 i) fm=b at hm hk
 generalize hmi:m.get i=a at hm
 cases hro:Nat.ble roB i with
 | false=>rw [hro] at hk;cases hk
 | true =>
  rw [hro] at hk
  cases hm with
  | loop a f ps x y st' hf=>exact ⟨_,_,rfl,hs.write (whole i) (hs.mb i _ hmi) (.loop a f ps x y st hf),hk⟩
  | _=>cases hk
end V
end Go.CE
namespace Go.CE
namespace V
variable [Sym] [avd]
variable {B:Nat} {s:St} {f:QW} {P:Program}
theorem aAc {a:Fr} {fr:FF} (h:RF a fr):∀ x:Operand,RV (aBu a x) (oV x fr)
 | .tmp t=>⟨(h.slot t).1,(h.slot t).2⟩
 | .const v=>bC2 (conv v)
 | .global k=>by
  show RV (match Nat.ble (k+1) 512 with | true=>_ | false=>_) (Bool.rec (motive:=fun _=>FV) (.w .bad) (.p (p4 (Nat.mul 2 k)) (Nat.mul 2 k) 0) (Nat.ble (k+1) 512))
  cases Nat.ble (k+1) 512 with
  | true=>exact ⟨rfl,rfl⟩
  | false=>exact ⟨rfl,rfl⟩
 | .func g=>⟨rfl,rfl⟩
theorem bpc (k:IntKind) (n:Nat):RV (.i k (.ofNat n)) (.i k n):=⟨rfl,trivial⟩
theorem bYz (v:Bool):RV (.b v) (.b v):=⟨rfl,trivial⟩
theorem bYy:RV .u .e:=⟨rfl,trivial⟩
theorem RV.i {a:AV} {k:IntKind} {n:Nat} (h:RV a (.i k n)):a=.i k (.ofNat n):=h.1
theorem bdh {o:Option AV} (hs:RS B s f):Ok B RV (fun k=>V.opt o fun v=>k (ofV v) f) (CE.lift o s):=by
 cases o with
 | none=>exact Ok.none
 | some a=>exact Ok.ret (bC2 a) hs
theorem bRo (j k:IntKind):ikF j k=bhd j k:=by cases j<;>cases k<;>rfl
theorem bnc (k:IntKind) (h:k.signed=false) (n:Nat):k.wrap (Int.ofNat n)=Int.ofNat (n % 2 ^ k.bits):=by
 unfold IntKind.wrap
 simp only [h,Bool.false_and,Bool.false_eq_true,if_false]
 rfl
theorem btm (k:IntKind) (n:Nat):RV (.i k (bb4 k (.ofNat n))) (bAk k n):=by
 have slow:∀ k,RV (.i k (bb4 k (.ofNat n))) (wrS k n):=fun k=>by
  rw [b9p]
  have:=bns (bDe k (k.wrap (Int.ofNat n)))
  rw [bvd] at this
  exact this
 cases k with
 | i8=>exact slow .i8
 | i16=>exact slow .i16
 | i32=>exact slow .i32
 | i64 =>
  show RV _ (Bool.rec (motive:=fun _=>FV) (wrS .i64 n) (.i .i64 n) (Nat.ble n 9223372036854775807))
  cases h:Nat.ble n 9223372036854775807 with
  | true =>
   have:bb4 .i64 (.ofNat n)=.ofNat n:=by unfold bb4;dsimp only;rw [h]
   rw [this];exact bpc _ _
  | false=>exact slow .i64
 | u8=>exact bpc _ _
 | u16=>rw [b9p,bnc _ rfl];exact bpc _ _
 | u32=>rw [b9p,bnc _ rfl];exact bpc _ _
 | u64=>rw [b9p,bnc _ rfl];exact bpc _ _
theorem bob (b:Bool):bXh b = !b:=by cases b<;>rfl
theorem bu9 (a b:Nat):bwy a b=min a b:=by
 unfold bwy
 cases h:Nat.ble a b with
 | true=>show a=_;have:=bbm h;omega
 | false=>show b=_;have:=bXq h;omega
theorem b8n {b:Bool} {x:Ans} {r:FV×QW} (h:V.iff b x=some r):b=true∧x=some r:=by
 cases b with
 | false=>cases h
 | true=>exact ⟨rfl,h⟩
theorem bj3 {op:BinOp} {t:Nat} {j k:IntKind} {a b:Nat} (hop:op≠.shl∧op≠.shr) (hik:ikF j k=true):bAd P op t (.i j (.ofNat a)) (.i k (.ofNat b))=bi5 op j (.ofNat a) (.ofNat b):=by
 rw [bRo] at hik
 unfold bAd bln
 cases op<;>first | (exact absurd rfl hop.1) | (exact absurd rfl hop.2) | (dsimp only;rw [hik])
theorem fin {y:Option AV} {x:AV} {v:FV} {k:KV} {r:FV×QW} (hs:RS B s f) (e:y=some x) (hv:RV x v) (hk:k v f=some r) : ∃ b f' a s',CE.lift y s=some (a,s')∧RV a b∧RS B s' f'∧k b f' = some r:=⟨v,f,x,s,by rw [e];rfl,hv,hs,hk⟩
theorem bUv (hs:RS B s f) (op:BinOp) (t:Nat) (j k:IntKind) (a b:Nat):Ok B RV (bI2 k b j a t op P f) (CE.lift (bAd P op t (.i j (.ofNat a)) (.i k (.ofNat b))) s):=by
 have sl:Ok B RV (bSl op j a k b t P f) (CE.lift (bAd P op t (.i j (.ofNat a)) (.i k (.ofNat b))) s):=bdh hs
 have N:∀ (g:Nat→Nat→Nat),op≠.shl∧op≠.shr→(∀ c,bhd j k=c→c=true→bi5 op j (.ofNat a) (.ofNat b)=some (.i j (bb4 j (.ofNat (g a b)))))→Ok B RV (bN g j a k b t P f) (CE.lift (bAd P op t (.i j (.ofNat a)) (.i k (.ofNat b))) s):=fun g ho e kk r hk=>by
  obtain ⟨h1,h2⟩:=b8n hk
  exact fin hs ((bj3 ho h1).trans (e _ rfl (by rw [← bRo];exact h1))) (btm _ _) h2
 have L:∀ (g:Nat→Nat→Nat),op≠.shl∧op≠.shr→(Nat.ble a j.max.toNat=true→Nat.ble b j.max.toNat=true→bi5 op j (.ofNat a) (.ofNat b)=some (.i j (.ofNat (g a b))))→Ok B RV (c66 g j a k b t P f) (CE.lift (bAd P op t (.i j (.ofNat a)) (.i k (.ofNat b))) s):=fun g ho e kk r hk=>by
  obtain ⟨h1,h2⟩:=b8n hk
  obtain ⟨h3,h4⟩:=b8n h2
  obtain ⟨h5,h6⟩:=b8n h4
  exact fin hs ((bj3 ho h1).trans (e h3 h5)) (bpc _ _) h6
 have C:∀ (g:Nat→Nat→Bool),op≠.shl∧op≠.shr→bi5 op j (.ofNat a) (.ofNat b)=some (.b (g a b))→Ok B RV (bC g j a k b t P f) (CE.lift (bAd P op t (.i j (.ofNat a)) (.i k (.ofNat b))) s):=fun g ho e kk r hk=>by
  obtain ⟨h1,h2⟩:=b8n hk
  exact fin hs ((bj3 ho h1).trans e) (bYz _) h2
 cases op with
 | add=>exact N Nat.add (by decide) fun _ _ _=>rfl
 | sub =>
  show Ok B RV (fun kk=>Bool.rec (motive:=fun _=>Ans) (bSl .sub j a k b t P f kk) (bN Nat.sub j a k b t P f kk) (Nat.ble b a)) _
  cases h:Nat.ble b a with
  | false=>exact sl
  | true =>
   refine N Nat.sub (by decide) fun _ _ _=>?_
   have hb:=bbm h
   show some (AV.i j (bb4 j (Int.ofNat a - Int.ofNat b)))=_
   have:(Int.ofNat a - Int.ofNat b:Int)=Int.ofNat (Nat.sub a b):=by
    show ((a:Int) - (b:Int))=((a - b:Nat):Int);omega
   rw [this]
 | mul=>exact N Nat.mul (by decide) fun _ _ _=>rfl
 | quo =>
  show Ok B RV (fun kk=>Bool.rec (motive:=fun _=>Ans) (bN Nat.div j a k b t P f kk) none (Nat.beq b 0)) _
  cases h:Nat.beq b 0 with
  | true=>exact Ok.none
  | false =>
   refine N Nat.div (by decide) fun _ _ _=>?_
   show (match eqI (Int.ofNat b) 0 with | true=>none | false=>some (AV.i j (bb4 j ((Int.ofNat a).tdiv (Int.ofNat b)))))=_
   have:eqI (Int.ofNat b) 0=false:=h
   rw [this];rfl
 | rem =>
  show Ok B RV (fun kk=>Bool.rec (motive:=fun _=>Ans) (V.iff (ikF j k) (kk (.i j (Nat.mod a b)) f)) none (Nat.beq b 0)) _
  cases h:Nat.beq b 0 with
  | true=>exact Ok.none
  | false =>
   intro kk r hk
   obtain ⟨h1,h2⟩:=b8n hk
   refine fin hs ((bj3 (by decide) h1).trans ?_) (bpc _ _) h2
   show (match eqI (Int.ofNat b) 0 with | true=>none | false=>some (AV.i j ((Int.ofNat a).tmod (Int.ofNat b))))=_
   have:eqI (Int.ofNat b) 0=false:=h
   rw [this];rfl
 | and=>exact L Nat.land (by decide) fun h1 h2=>by unfold bi5 bA2;dsimp only;rw [h1,h2];rfl
 | or=>exact L Nat.lor (by decide) fun h1 h2=>by unfold bi5 bA2;dsimp only;rw [h1,h2];rfl
 | xor=>exact L Nat.xor (by decide) fun h1 h2=>by unfold bi5 bA2;dsimp only;rw [h1,h2];rfl
 | shl =>
  intro kk r hk
  change kk (bAk j (Nat.mul a (Nat.pow 2 (bwy b (bNc j))))) f=some r at hk
  refine fin hs ?_ (btm _ _) hk
  rw [bu9]
  rfl
 | shr =>
  intro kk r hk
  change kk (.i j (Nat.div a (Nat.pow 2 (bwy b (bNc j))))) f=some r at hk
  refine fin hs ?_ (bpc _ _) hk
  rw [bu9]
  rfl
 | andNot=>exact sl
 | eql=>exact C Nat.beq (by decide) rfl
 | neq=>exact C cad (by decide) (by show some (AV.b (!Nat.beq a b))=_;unfold cad;rw [bob])
 | lss=>exact C cae (by decide) (by show some (AV.b (!Nat.ble b a))=_;unfold cae;rw [bob])
 | leq=>exact C Nat.ble (by decide) rfl
 | gtr=>exact C caf (by decide) (by show some (AV.b (!Nat.ble a b))=_;unfold caf;rw [bob])
 | geq=>exact C cGeq (by decide) rfl
theorem c1c (hs:RS B s f) (op:BinOp) (t:Nat) {x y:AV} {v w:FV} (hx:RV x v) (hy:RV y w):Ok B RV (bg4 v w t op P f) (CE.lift (bAd P op t x y) s):=by
 obtain ⟨rfl,ov⟩:=hx
 obtain ⟨rfl,ow⟩:=hy
 cases v with
 | i j a =>
  cases w with
  | i k b=>exact bUv hs op t j k a b
  | _=>exact bdh hs
 | _=>exact bdh hs
theorem c8m (hs:RS B s f) (op:UnOp) {t:Nat} {x:AV} {v:FV} (hx:RV x v):Ok B RV (UnOp.rec (motive:=fun _=>FV→QW→KV→Ans) (unS .neg) (unS .xor) c8u (unS .plus) op v f) (CE.lift (unA op x) s):=by
 obtain ⟨rfl,ov⟩:=hx
 cases op with
 | not =>
  cases v with
  | b v=>exact Ok.ret (by rw [bob];exact bYz _) hs
  | _=>exact Ok.none
 | _=>exact bdh hs
theorem bDh (hs:RS B s f) (t:Nat) {x:AV} {v:FV} (hx:RV x v):Ok B RV (bz7 P t v f) ((match aYb P t with
  | some ty=>bep ty x
  | none=>fail) s):=by
 obtain ⟨rfl,ov⟩:=hx
 unfold bz7 bnl
 cases aYb P t with
 | none=>exact Ok.none
 | some ty =>
  cases v with
  | p q i o =>
   have hq:q=p4 i:=ov
   subst hq
   show Ok B RV (fun k=>Bool.rec (motive:=fun _=>Ans) (c83 (p4 i) i o f k) (bnv (p4 i) i o ty.size f k) (agg ty.d)) (bep ty (.p (some (i,o))) s)
   unfold bep
   dsimp only
   cases agg ty.d with
   | false =>
    refine Ok.bnd (g:=fun v f k=>k v f) (c0q hs i o) fun v f a s h hs=>?_
    obtain ⟨rfl,hc⟩:=h
    exact Ok.ret (bns hc) hs
   | true =>
    refine Ok.bnd (g:=fun v f k=>k v f) (bd0 hs i o ty.size) fun v f a s h hs=>?_
    obtain ⟨t,rfl,rfl,hc⟩:=h
    exact Ok.ret ⟨rfl,hc⟩ hs
  | _=>exact Ok.none
theorem bet {v:FV} (h:ba7 v):cellsOf (b8x v) = [bbo v]∧aRg [bbo v]=true:=by
 rw [(bha h).1]
 constructor
 ·cases v with
  | o a=>cases a<;>first | rfl | (simp [ba7,sc] at h)
  | _=>first | rfl | exact absurd h id
 ·unfold aRg;rw [btk h];rfl
theorem bYn (v:FV) (h:ba7 v) (n:Nat) (q:P4) (i o:Nat) (f:QW) (k:KV):stV v n q i o f k=st1 v n q i o f k:=by
 cases v<;>first | rfl | exact absurd h id
theorem bG8 {v:FV} (h:okV v):ba7 v∨(∃ t n,v=.g t n∧b9f t n)∨(∃ x,v=.w x)∨(∃ t n,v=.t t n)∨v=.e:=by
 cases v with
 | g t n=>exact .inr (.inl ⟨t,n,rfl,h⟩)
 | w x=>exact .inr (.inr (.inl ⟨x,rfl⟩))
 | t t n=>exact .inr (.inr (.inr (.inl ⟨t,n,rfl⟩)))
 | e=>exact .inr (.inr (.inr (.inr rfl)))
 | n _ _ _ _ _=>exact absurd h id
 | _=>exact .inl h
theorem bLd (hs:RS B s f) (ty:TY) {x y:AV} {v w:FV} (hx:RV x v) (hy:RV y w):Ok B RV (stA v w ty.size f) (CE.bnd (bgd ty x y) (fun _=>CE.ret .u) s):=by
 obtain ⟨rfl,ov⟩:=hx
 obtain ⟨rfl,ow⟩:=hy
 cases v with
 | p q i o =>
  have hq:q=p4 i:=ov
  subst hq
  show Ok B RV (fun k=>stV w ty.size (p4 i) i o f k) (CE.bnd (CE.bnd (CE.chk (Nat.beq (cellsOf (b8x w)).length ty.size)) fun _=>CE.bnd (CE.chk (aRg (cellsOf (b8x w)))) fun _=>match cellsOf (b8x w) with
   | []=>CE.ret ()
   | _ :: _=>wrK i o (cellsOf (b8x w))) (fun _=>CE.ret .u) s)
  rcases bG8 ow with h | ⟨t,n,rfl,h⟩ | ⟨x,rfl⟩ | ⟨t,n,rfl⟩ | rfl
  ·obtain ⟨h1,h2⟩:=bet h
   rw [h1]
   intro k r hk
   dsimp only at hk
   rw [bYn _ h] at hk
   obtain ⟨h3,h4⟩:=b8n hk
   obtain ⟨f',s',e,h5,h6⟩:=c0l hs i o h _ _ h4
   refine ⟨.e,f',.u,s',?_,bYy,h5,h6⟩
   have e1:Nat.beq [bbo w].length ty.size=true:=by have:=be1 h3;rw [this];rfl
   rw [e1,h2]
   show CE.bnd (wrK i o [bbo w]) (fun _=>CE.ret AV.u) s=_
   unfold CE.bnd
   rw [e];rfl
  ·have h1:cellsOf (b8x (.g t n))=ajn t 0 n:=rfl
   rw [h1]
   intro k r hk
   obtain ⟨h3,h4⟩:=b8n hk
   have hn:n=ty.size:=be1 h3
   have e1:Nat.beq (ajn t 0 n).length ty.size=true:=by rw [avg];exact h3
   rw [e1,be7 h]
   cases n with
   | zero=>exact ⟨.e,f,.u,s,rfl,bYy,hs,h4⟩
   | succ n =>
    change bSa (p4 i) i o t (n+1) f (k .e)=some r at h4
    obtain ⟨f',s',e,h5,h6⟩:=bD8 hs i o (n+1) h _ _ h4
    refine ⟨.e,f',.u,s',?_,bYy,h5,h6⟩
    have:ajn t 0 (n+1)=bbo (aRb (p4 0) t) :: (ajn t 0 (n+1)).tail:=by
     cases hc:ajn t 0 (n+1) with
     | nil=>have:=avg t 0 (n+1);rw [hc] at this;simp at this
     | cons a l => 
      have h0:=avc t 0 (n+1) 0
      rw [hc] at h0
      simp at h0
      rw [h0];rfl
    rw [this] at e ⊢
    show CE.bnd (wrK i o (_ :: _)) (fun _=>CE.ret AV.u) s=_
    unfold CE.bnd
    rw [e];rfl
  ·exact Ok.none
  ·exact Ok.none
  ·exact Ok.none
 | _=>exact Ok.none
theorem bvi {t:Nat} {z:FV×Nat} (h:bAf P t=some z) : ∃ ty,aYb P t=some ty∧z.2=ty.zero.length∧ajn z.1 0 z.2=ty.zero∧b9f z.1 z.2:=by
 unfold bAf at h
 cases hty:aYb P t with
 | none=>rw [hty] at h;cases h
 | some ty =>
  rw [hty] at h
  dsimp only at h
  cases hz:aRg ty.zero with
  | false=>rw [hz] at h;cases h
  | true =>
   rw [hz] at h
   cases h
   have:=aRh _ hz
   exact ⟨ty,rfl,rfl,this.1,this.2⟩
theorem b4w (hs:RS B s f) (g:Bool) (T:Nat) {t:FV} {n:Nat} {cs:List AV} (hc:ajn t 0 n=cs) (ho:b9f t n) {α β:Type} {R:α→β→Prop} {x:P4→Nat→QW→(β→QW→Ans)→Ans} {y:Nat→X α} (h:∀ i f s,RS B s f→Ok B R (x (p4 i) i f) (y i s)) :
  Ok B R (fun k=>bem g (.cells t n T) f fun q i f=>x q i f k) (CE.bnd (ba9 g (.cells cs T)) y s):=fun k r hk=>by
 subst hc
 obtain ⟨i,f',s',e,h1,h2⟩:=bDf hs g (.cells t n T ho) _ r hk
 obtain ⟨b,f2,a,s2,e2,h3,h4,h5⟩:=h i f' s' h1 k r h2
 refine ⟨b,f2,a,s2,?_,h3,h4,h5⟩
 unfold CE.bnd
 rw [e];exact e2
theorem bXa (i o:Nat):RV (.p (some (i,o))) (.p (p4 i) i o):=⟨rfl,rfl⟩
theorem bO0 (i o n c:Nat):RV (.sl (some (i,o)) n c) (.s (p4 i) i o n c):=⟨rfl,rfl⟩
theorem bLk (hs:RS B s f) (t:Nat) (c:Cx) (fr:FF) (hc:c.P=P):Ok B RV (bNq t c fr f) ((match aYb P t with
  | some ty=>CE.bnd (ba9 false (.cells ty.zero t)) fun k=>CE.ret (AV.p (some (k,0)))
  | none=>fail) s):=by
 subst hc
 refine Ok.opt fun z hz=>?_
 obtain ⟨ty,e,h1,h2,h3⟩:=bvi hz
 rw [e]
 exact b4w hs false t h2 h3 (x:=fun q i f k=>k (FV.p q i 0) f) fun i f s hs=>Ok.ret (bXa i 0) hs
theorem c1b (hs:RS B s f) (t:Nat) {x:AV} {v:FV} (hx:RV x v):Ok B RV (bxV v t f) (bGj t x s):=by
 obtain ⟨rfl,ov⟩:=hx
 have one:ba7 v→Ok B RV (fun k=>bem false (.cells (bg8 (p4 0) v .e) 1 t) f fun q i s=>k (.p q i 0) s) (bGj t (b8x v) s):=fun h=>by
  obtain ⟨h1,h2⟩:=bet h
  unfold bGj
  rw [h1]
  exact Ok.chk h2 (b4w hs false t (cells_one v) (ok_one h) (x:=fun q i f k=>k (FV.p q i 0) f) fun i f s hs=>Ok.ret (bXa i 0) hs)
 cases v with
 | g c n =>
  unfold bGj
  exact Ok.chk (be7 ov) (b4w hs false t rfl ov (x:=fun q i f k=>k (FV.p q i 0) f) fun i f s hs=>Ok.ret (bXa i 0) hs)
 | i _ _=>exact one ov
 | b _=>exact one ov
 | p _ _ _=>exact one ov
 | s _ _ _ _ _=>exact one ov
 | o _=>exact one ov
 | _=>exact Ok.none
end V
end Go.CE
namespace Go.CE
namespace V
variable [Sym] [avd]
variable {B:Nat} {s:St} {f:QW} {P:Program}
theorem bzu {v:FV} (h:ba7 v):sc (b8x v)=true:=by rw [(bha h).1];exact btk h
theorem c2f {v t:FV} {off size N:Nat} {k:FV→Ans} {r:FV×QW} (h:ly1 v t off size N k=some r):size=1∧off+1≤N∧k (bg8 (p4 off) v t)=some r:=by
 obtain ⟨h1,h2⟩:=b8n h
 obtain ⟨h3,h4⟩:=b8n h2
 exact ⟨be1 h1,bbm h3,h4⟩
theorem c2e {v:FV} (h:ba7 v) (t:FV) (off size N:Nat) (k:FV→Ans):lyV v t off size N k=ly1 v t off size N k:=by
 cases v<;>first | rfl | exact absurd h id
theorem bo8 {a:Fr} {fr:FF} (hf:RF a fr) {pl place:PL} (hp:∀ j z,pl j=some z→place j=some z) (N:Nat):∀ (l:List (Nat×Operand)) (t:FV),b9f t N→∀ (k:FV→Ans) (r:FV×QW),bv1 pl N (bt7 l fr) t k=some r →
  ∃ t',bks place (ajn t 0 N) (l.map fun (j,x)=>(j,aBu a x))=some (ajn t' 0 N)∧b9f t' N∧k t' = some r
 | [],t,ht,k,r,hk=>⟨t,rfl,ht,hk⟩
 | (j,x) :: l,t,ht,k,r,hk=>by
  change V.opt (pl j) (fun z=>lyV (oV x fr) t z.1 z.2 N (fun t=>bv1 pl N (bt7 l fr) t k))=some r at hk
  cases hz:pl j with
  | none=>rw [hz] at hk;cases hk
  | some z =>
   obtain ⟨off,size⟩:=z
   rw [hz] at hk
   change lyV (oV x fr) t off size N (fun t=>bv1 pl N (bt7 l fr) t k)=some r at hk
   have hpl:=hp _ _ hz
   obtain ⟨e,ov⟩:=aAc hf x
   generalize oV x fr=v at hk e ov
   show ∃ t',(match place j with
    | none=>none
    | some (off,size)=>match sc (aBu a x)||aRg (cellsOf (aBu a x)),Nat.beq (cellsOf (aBu a x)).length size with
     | true,true=>match setAt (ajn t 0 N) off (cellsOf (aBu a x)) with
      | some cs=>bks place cs (l.map fun (j,x)=>(j,aBu a x))
      | none=>none
     | _,_=>none)=some (ajn t' 0 N)∧b9f t' N∧k t' = some r
   rw [hpl,e]
   dsimp only
   rcases bG8 ov with h | ⟨t2,n,rfl,h⟩ | ⟨x,rfl⟩ | ⟨t,n,rfl⟩ | rfl
   ·rw [c2e h] at hk
    obtain ⟨rfl,h1,h2⟩:=c2f hk
    obtain ⟨t',h3,h4,h5⟩:=bo8 hf hp N l _ (bPs ht h) k r h2
    refine ⟨t',?_,h4,h5⟩
    obtain ⟨e1,e2⟩:=bet h
    rw [e1,bzu h,bpx h1]
    exact h3
   ·obtain ⟨h1,h2⟩:=b8n (show V.iff (Nat.beq n size) _=some r from hk)
    obtain ⟨h3,h4⟩:=b8n h2
    have hn:n=size:=be1 h1
    subst hn
    obtain ⟨t',h6,h7,h8⟩:=bo8 hf hp N l _ (bPt ht h (bbm h3)) k r h4
    refine ⟨t',?_,h7,h8⟩
    have e1:cellsOf (b8x (.g t2 n))=ajn t2 0 n:=rfl
    rw [e1,be7 h,avg,bja,Bool.or_true,bfv (bbm h3)]
    exact h6
   ·cases hk
   ·cases hk
   ·cases hk
theorem bLj (hs:RS B s f) {a:Fr} {fr:FF} (hf:RF a fr) (t:Nat) (ps:Array (Nat×Operand)) (c:Cx) (hc:c.P=P):Ok B RV (bNp t ps c fr f) (CE.lift (bie P t (ps.toList.map fun (j,x)=>(j,aBu a x))) s):=by
 subst hc
 intro k r hk
 obtain ⟨h1,h2⟩:=b8n hk
 cases hz:bAf c.P t with
 | none=>rw [hz] at h2;cases h2
 | some z =>
  rw [hz] at h2
  obtain ⟨ty,e,z1,z2,z3⟩:=bvi hz
  change bv1 (c07 c.P t) z.2 (bt7 ps.toList fr) z.1 (fun r=>k (.g r z.2) f)=some r at h2
  have core:∀ place,(∀ j z,c07 c.P t j=some z→place j=some z)→(∀ parts cs,bks place ty.zero parts=some cs→bie c.P t parts=some (.g cs))→∃ b f' a' s',CE.lift (bie c.P t (ps.toList.map fun (j,x)=>(j,aBu a x))) s=some (a',s')∧RV a' b∧RS B s' f'∧k b f' = some r:=fun place hp hb=>by
   obtain ⟨t',h3,h4,h5⟩:=bo8 hf hp z.2 ps.toList z.1 z3 _ r h2
   rw [z2] at h3
   exact ⟨.g t' z.2,f,.g (ajn t' 0 z.2),s,by rw [hb _ _ h3];rfl,⟨rfl,h4⟩,hs,h5⟩
  unfold c41 at h1
  rw [e] at h1
  dsimp only at h1
  cases hd:ty.d with
  | bgc fs =>
   rw [hd] at h1
   dsimp only at h1
   refine core (placeOf c.P fs) (fun j z hj=>?_) (fun parts cs hcs=>?_)
   ·unfold c07 at hj;rw [e] at hj;dsimp only at hj;rw [hd] at hj;exact hj
   ·unfold bie;rw [e];dsimp only;rw [hd];dsimp only;rw [h1];dsimp only;rw [hcs]
  | arr n el =>
   rw [hd] at h1
   dsimp only at h1
   cases hse:bau c.P el with
   | none=>rw [hse] at h1;cases h1
   | some m =>
    refine core (fun j=>some (j * m,m)) (fun j z hj=>?_) (fun parts cs hcs=>?_)
    ·unfold c07 at hj;rw [e] at hj;dsimp only at hj;rw [hd] at hj;dsimp only at hj;rw [hse] at hj;exact hj
    ·unfold bie;rw [e];dsimp only;rw [hd];dsimp only;rw [hse];dsimp only;rw [hcs]
  | _=>rw [hd] at h1;cases h1
theorem bo9 (hs:RS B s f) {a:Fr} {fr:FF} (hf:RF a fr) (t len:Nat) (ps:Array (Nat×Operand)) (c:Cx) (hc:c.P=P):Ok B RV (bje t len ps c fr f) (b9b P t len (ps.toList.map fun (j,x)=>(j,aBu a x)) s):=by
 subst hc
 intro k r hk
 change V.opt (bsOf c.P t len) _=some r at hk
 cases hz:bsOf c.P t len with
 | none=>rw [hz] at hk;cases hk
 | some z =>
  rw [hz] at hk
  unfold bsOf at hz
  unfold b9b
  split at hz
  ·rename_i e sz by' zr hty
   rw [hty]
   dsimp only
   cases hte:aYb c.P e with
   | none=>rw [hte] at hz;cases hz
   | some ty =>
    rw [hte] at hz
    dsimp only at hz ⊢
    cases hch:(Nat.ble (len * ty.size) 16777216&&Nat.beq ty.zero.length ty.size&&aRg ty.zero) with
    | false=>rw [hch] at hz;cases hz
    | true =>
     rw [hch] at hz
     cases hz
     simp only [Bool.and_eq_true] at hch
     obtain ⟨⟨h1,h2⟩,h3⟩:=hch
     have hr:aRg (bjy ty.zero len)=true:=beo fun v hv=>by
      clear hk h1 h2 hte hty
      induction len with
      | zero=>simp [bjy] at hv
      | succ n ih =>
       rcases List.mem_append.mp (show v∈ty.zero++bjy ty.zero n from hv) with h | h
       ·exact bh8 h3 v h
       ·exact ih h
     obtain ⟨z1,z2⟩:=aRh _ hr
     change bv1 (fun j=>some (j * ty.size,ty.size)) (bjy ty.zero len).length (bt7 ps.toList fr) (azg (bjy ty.zero len)) (fun r=>bem false (.cells r (bjy ty.zero len).length e) f fun q i s=>k (.s q i 0 len len) s)=some r at hk
     obtain ⟨t',h4,h5,h6⟩:=bo8 hf (place:=fun j=>some (j * ty.size,ty.size)) (fun j z hj=>hj) _ ps.toList _ z2 _ r hk
     rw [z1] at h4
     have h4':bks (fun j=>some (j * ty.size,ty.size)) (bjy ty.zero len) (ps.toList.map fun x=>(x.fst,aBu a x.snd))=some (ajn t' 0 (bjy ty.zero len).length):=h4
     rw [h1,h2,h4']
     exact b4w hs false e rfl h5 (x:=fun q i f k=>k (FV.s q i 0 len len) f) (y:=fun k=>CE.ret (AV.sl (some (k,0)) len len)) (fun i f s hs=>Ok.ret (bO0 i 0 len len) hs) k r h6
  ·cases hz
theorem c0s (hs:RS B s f) {x:AV} {v:FV} (hx:RV x v):Ok B RV (bV0 v f) ((match x with
 | .p (some a)=>CE.ret (AV.p (some a))
 | .f fn a c=>CE.ret (AV.f fn a c)
 | .m r=>CE.ret (AV.m r)
 | _=>fail) s):=by
 obtain ⟨rfl,ov⟩:=hx
 cases v with
 | p q i o=>exact Ok.ret ⟨rfl,ov⟩ hs
 | o a =>
  cases a<;>first | exact Ok.none | exact Ok.ret ⟨rfl,rfl⟩ hs
 | _=>exact Ok.none
theorem bF4 {t:FV} {n:Nat} {r:List Nat} (h:bxg (.g t n)=some r):b9y (ajn t 0 n)=some r:=h
theorem bUu (hs:RS B s f) (a t:Nat) (x:Operand) {ar:Fr} {fr:FF} (hf:RF ar fr) (c:Cx) (hc:c.P=P):Ok B RV (bS9 a t x c fr f) (bbc P a t (aBu ar x) s):=by
 subst hc
 unfold bS9
 obtain ⟨e,ov⟩:=aAc hf x
 rw [e]
 generalize oV x fr=v at ov
 cases hi:bEo c.P a t with
 | some kd =>
  show Ok B RV (cvV v kd f) _
  unfold bEo at hi
  split at hi
  ·rename_i sd kd' sz by' zr h1 h2
   cases hi
   unfold bbc
   rw [h1,h2]
   cases v with
   | i j n=>exact Ok.ret (btm _ _) hs
   | o v =>
    cases v with
    | i j n=>exact Ok.ret (by have:=bns (bDe kd (bb4 kd n));rw [bvd] at this;exact this) hs
    | x j n=>exact bdh hs
    | _=>exact Ok.none
   | _=>exact Ok.none
  ·cases hi
 | none =>
  show Ok B RV (cvT c.P a t v f) _
  unfold cvT bbc
  cases h1:aYb c.P a with
  | none=>exact Ok.none
  | some sd =>
   cases h2:aYb c.P t with
   | none=>exact Ok.none
   | some d =>
    dsimp only
    obtain ⟨sdd,sz1,by1,z1⟩:=sd
    obtain ⟨dd,sz2,by2,z2⟩:=d
    dsimp only
    cases dd with
    | str =>
     cases v with
     | o v =>
      cases v with
      | s x=>exact Ok.ret ⟨rfl,rfl⟩ hs
      | sl b n cp =>
       cases b with
       | some _=>cases sdd<;>exact Ok.none
       | none =>
        cases sdd with
        | slice e =>
         show Ok B RV (fun k=>match aYb c.P e with
          | some ⟨.int .u8,_,_,_⟩=>k (.o (.s [])) f
          | _=>none) ((match aYb c.P e with
          | some ⟨.int .u8,_,_,_⟩=>CE.ret (AV.s [])
          | _=>fail) s)
         split
         ·rename_i h;rw [h];exact Ok.ret ⟨rfl,rfl⟩ hs
         ·exact Ok.none
        | _=>exact Ok.none
      | _=>cases sdd<;>exact Ok.none
     | s q i o n cp =>
      cases sdd with
      | slice e =>
       have hq:q=p4 i:=ov
       subst hq
       show Ok B RV (fun k=>match aYb c.P e with
        | some ⟨.int .u8,_,_,_⟩=>bnv (p4 i) i o n f fun v s=>V.opt (bxg v) fun r=>k (.o (.s r)) s
        | _=>none) ((match aYb c.P e with
        | some ⟨.int .u8,_,_,_⟩=>CE.bnd (rdK i o n) fun l=>CE.bnd (CE.lift (b9y l)) fun r=>CE.ret (AV.s r)
        | _=>fail) s)
       split
       ·rename_i h
        rw [h]
        refine Ok.bnd (g:=fun v f k=>V.opt (bxg v) fun r=>k (FV.o (.s r)) f) (bd0 hs i o n) fun v f l s hv hs=>?_
        obtain ⟨tt,rfl,rfl,ht⟩:=hv
        exact Ok.opt fun r hr=>Ok.lift (bF4 hr) (Ok.ret ⟨rfl,rfl⟩ hs)
       ·exact Ok.none
      | _=>exact Ok.none
     | _=>cases sdd<;>exact Ok.none
    | _ => 
     intro k r hk
     dsimp only at hk
     cases sdd<;>(try (cases v<;>cases hk))<;>cases hk
theorem bvg {a:Fr} {fr:FF} (hf:RF a fr):∀ l:List Operand,bXs (bp9 l fr)=l.map (aBu a)
 | []=>rfl
 | x :: l=>by
  show b8x (oV x fr) :: bXs (bp9 l fr)=_
  rw [bvg hf l,← (aAc hf x).1];rfl
end V
end Go.CE
namespace Go.CE
namespace V
variable [Sym] [avd]
variable {B:Nat} {s:St} {f:QW} {P:Program}
theorem boc {v:FV} {k:Nat→Ans} {r:FV×QW} (h:bqu v k=some r) : ∃ kd n,v=.i kd n∧k n=some r:=by
 cases v with
 | i kd n=>exact ⟨kd,n,rfl,h⟩
 | _=>cases h
theorem bxe (z:FV) (size:Nat):∀ (n j:Nat),j < n * size→aRb (p4 j) (bZ9 z size n)=aRb (p4 (j % size)) z
 | 0,j,h=>by omega
 | n+1,j,h=>by
  show aRb (p4 j) (ovT (bZ9 z size n) z (n * size) size)=_
  rw [bkq]
  have e:(n+1) * size=n * size+size:=Nat.succ_mul n size
  by_cases h1:j < n * size
  ·rw [if_neg (by omega),bxe z size n j h1]
  ·rw [if_pos (by omega)]
   congr 2
   have h2:j=(j - n * size)+size * n:=by rw [Nat.mul_comm size n];omega
   have h3:j % size=(j - n * size) % size:=by
    conv=>lhs;rw [h2]
    exact Nat.add_mul_mod_self_left _ _ _
   rw [h3,Nat.mod_eq_of_lt (by omega)]
theorem bqp (hs:RS B s f) {a:Fr} {fr:FF} (hf:RF a fr) (t:Nat) (l c:Operand) (cx:Cx) (hc:cx.P=P):Ok B RV (blz t l c cx fr f) (b9t P t (aBu a l) (aBu a c) s):=by
 subst hc
 intro k r hk
 change V.opt (c5l cx.P t) _=some r at hk
 cases hz:c5l cx.P t with
 | none=>rw [hz] at hk;cases hk
 | some z =>
  rw [hz] at hk
  unfold c5l at hz
  split at hz
  ·rename_i e sz by' zr hty
   cases hte:aYb cx.P e with
   | none=>rw [hte] at hz;cases hz
   | some ty =>
    rw [hte] at hz
    dsimp only at hz
    cases hch:(Nat.ble ty.bytes 100000&&Nat.beq ty.zero.length ty.size&&aRg ty.zero) with
    | false=>rw [hch] at hz;cases hz
    | true =>
     rw [hch] at hz
     cases hz
     simp only [Bool.and_eq_true] at hch
     obtain ⟨⟨h1,h2⟩,h3⟩:=hch
     obtain ⟨z1,z2⟩:=aRh _ h3
     obtain ⟨kd,ln,e1,hk⟩:=boc (show bqu (oV l fr) _=some r from hk)
     obtain ⟨kd2,cn,e2,hk⟩:=boc hk
     obtain ⟨h4,hk⟩:=b8n hk
     simp only [Bool.and_eq_true] at h4
     have hl:aBu a l=.i kd (.ofNat ln):=by rw [(aAc hf l).1,e1];rfl
     have hcn:aBu a c=.i kd2 (.ofNat cn):=by rw [(aAc hf c).1,e2];rfl
     unfold b9t
     rw [hl,hcn,hty]
     dsimp only [bLp]
     rw [hte]
     dsimp only
     rw [h1,h2,h4.1,h4.2]
     have hsz:ty.zero.length=ty.size:=be1 h2
     have hg:=fun j=>bxe (azg ty.zero) ty.size cn j
     have hcell:ajn (bZ9 (azg ty.zero) ty.size cn) 0 (cn * ty.size)=bjy ty.zero cn:=by
      apply List.ext_getElem?
      intro j
      rw [avc]
      have hr:=biw ty.zero cn j
      by_cases hj:j < cn * ty.size
      ·rw [if_pos hj,Nat.zero_add,hg j hj,hr.2 (by rw [hsz];exact hj),hsz]
       have hp:j % ty.size < ty.size:=Nat.mod_lt _ (by
                                 rcases Nat.eq_zero_or_pos ty.size with h | h;· rw [h] at hj;omega
                                 ·exact h)
       have:=avc (azg ty.zero) 0 ty.zero.length (j % ty.size)
       rw [show ajn (azg ty.zero) 0 ty.zero.length=ty.zero from z1,if_pos (by omega),Nat.zero_add] at this
       exact this.symm
      ·rw [if_neg hj]
       exact (List.getElem?_eq_none (by rw [hr.1,hsz];omega)).symm
     have hok:b9f (bZ9 (azg ty.zero) ty.size cn) (cn * ty.size):=fun j hj=>by
      rw [hg j hj]
      refine z2 _ ?_
      rw [hsz]
      exact Nat.mod_lt _ (by
                  rcases Nat.eq_zero_or_pos ty.size with h | h;· rw [h] at hj;omega
                  ·exact h)
     exact b4w hs false e hcell hok (x:=fun q i f k=>k (FV.s q i 0 ln cn) f) (y:=fun k=>CE.ret (AV.sl (some (k,0)) ln cn)) (fun i f s hs=>Ok.ret (bO0 i 0 ln cn) hs) k r hk
  ·cases hz
theorem bvf {a:Fr} {fr:FF} (hf:RF a fr) (x:Option Operand):c68 (c5e x fr)=x.map (aBu a):=by
 cases x with
 | none=>rfl
 | some x=>show some (b8x (oV x fr))=some (aBu a x);rw [(aAc hf x).1]
theorem ok_slice (hs:RS B s f) {a:Fr} {fr:FF} (hf:RF a fr) (t:Nat) (x:Operand) (lo hi mx:Option Operand) (c:Cx) (hc:c.P=P):Ok B RV (bAh t x lo hi mx c fr f) (CE.bnd (bG6 P t (aBu a x)) (fun _=>CE.lift (bge P t (aBu a x) (lo.map (aBu a)) (hi.map (aBu a)) (mx.map (aBu a)))) s):=by
 subst hc
 unfold bAh bNx
 rw [bvf hf,bvf hf,bvf hf]
 obtain ⟨e,ov⟩:=aAc hf x
 rw [← e]
 have last:∀ f s,RS B s f→Ok B RV (fun k=>V.opt (bge c.P t (aBu a x) (lo.map (aBu a)) (hi.map (aBu a)) (mx.map (aBu a))) fun v=>k (ofV v) f) (CE.lift (bge c.P t (aBu a x) (lo.map (aBu a)) (hi.map (aBu a)) (mx.map (aBu a))) s):=fun f s hs=>bdh hs
 generalize bge c.P t (aBu a x) (lo.map (aBu a)) (hi.map (aBu a)) (mx.map (aBu a))=res at last
 rw [e]
 generalize oV x fr=v at ov
 have bHs:(bG6 c.P t (b8x v)=CE.ret ())→Ok B RV (fun k=>V.opt res fun v=>k (ofV v) f) (CE.bnd (bG6 c.P t (b8x v)) (fun _=>CE.lift res) s):=fun h=>by
  rw [h];exact last f s hs
 cases v with
 | s q i o n cp =>
  have hq:q=p4 i:=ov
  subst hq
  show Ok B RV (fun k=>Bool.rec (motive:=fun _=>Ans) (V.opt res fun v=>k (ofV v) f) (bXd (p4 i) i f fun T f=>V.iff (bX6 c.P t T) (V.opt res fun v=>k (ofV v) f)) (gw i)) (CE.bnd (match gw i with
   | true=>CE.bnd (rdT i) fun T=>match aYb c.P t with
    | some ⟨.slice e,_,_,_⟩=>CE.chk (Nat.beq T e)
    | _=>fail
   | false=>CE.ret ()) (fun _=>CE.lift res) s)
  cases gw i with
  | false=>exact last f s hs
  | true =>
   have hh:∀ T s,CE.bnd (match aYb c.P t with
    | some ⟨.slice e,_,_,_⟩=>CE.chk (Nat.beq T e)
    | _=>fail) (fun _=>CE.lift res) s=CE.bnd (CE.chk (bX6 c.P t T)) (fun _=>CE.lift res) s:=fun T s=>by
    unfold bX6
    cases aYb c.P t with
    | none=>rfl
    | some ty=>obtain ⟨d,x1,x2,x3⟩:=ty;cases d<;>rfl
   have e2:(CE.bnd (CE.bnd (rdT i) fun T=>match aYb c.P t with
    | some ⟨.slice e,_,_,_⟩=>CE.chk (Nat.beq T e)
    | _=>fail) (fun _=>CE.lift res) s)=CE.bnd (rdT i) (fun T=>CE.bnd (CE.chk (bX6 c.P t T)) (fun _=>CE.lift res)) s:=by
    unfold CE.bnd
    cases rdT i s with
    | none=>rfl
    | some q=>exact hh q.1 q.2
   refine Ok.eq ?_ e2.symm
   refine Ok.bnd (g:=fun T f k=>V.iff (bX6 c.P t T) (V.opt res fun v=>k (ofV v) f)) (bwh hs i) fun T f T' s hT hs=>?_
   subst hT
   exact Ok.iff fun h=>Ok.chk h (last f s hs)
 | o x =>
  cases x with
  | sl b n cp =>
   cases b with
   | none=>exact bHs rfl
   | some b=>exact Ok.none
  | _=>exact bHs rfl
 | p _ _ _=>exact bHs rfl
 | _=>exact Ok.none
theorem bqr (hs:RS B s f) (t j:Nat) {x:AV} {v:FV} (hx:RV x v):Ok B RV (fun k=>V.opt (bW2 P t j) fun off=>bgn v off f k) (CE.lift (bbx P t x j) s):=by
 obtain ⟨rfl,ov⟩:=hx
 refine Ok.opt fun off ho=>?_
 unfold bW2 at ho
 cases v with
 | p q i o =>
  have hq:q=p4 i:=ov
  subst hq
  split at ho
  ·rename_i fs x1 x2 x3 hty
   split at ho
   ·rename_i a b hp
    cases ho
    refine Ok.eq (Ok.ret (bXa i (o+off)) hs) ?_
    show _=CE.lift (bbx P t (.p (some (i,o))) j) s
    unfold bbx
    rw [hty];dsimp only;rw [hp];rfl
   ·cases ho
  ·cases ho
 | _=>exact Ok.none
theorem bDb (hs:RS B s f) {y:Option AV} {t:FV} {n:Nat} (ht:b9f t n) (b:Bool) (off size:Nat) (hy:eqA.part b size off (ajn t 0 n)=y):Ok B RV (prt t n b off size f) (CE.lift y s):=by
 subst hy
 cases b with
 | false =>
  show Ok B RV (fun k=>V.iff (Nat.ble (off+1) n) (k (aRb (p4 off) t) f)) _
  refine Ok.iff fun h=>?_
  have hb:=bbm h
  refine Ok.eq (Ok.ret (bns (ht off hb)) hs) ?_
  show _=CE.lift (ajn t 0 n)[off]? s
  rw [avc,if_pos (show off < n from hb),Nat.zero_add];rfl
 | true =>
  show Ok B RV (fun k=>V.iff (Nat.ble (off+size) n) (k (.g (bI9 t off size) size) f)) _
  refine Ok.iff fun h=>?_
  have hb:=bbm h
  have hc:RV (.g (ajn t off size)) (.g (bI9 t off size) size):=⟨by show _=AV.g _;rw [bsh],bPq ht hb⟩
  refine Ok.eq (Ok.ret hc hs) ?_
  show _=CE.lift (match cut (ajn t 0 n) off size with | some l=>some (AV.g l) | none=>none) s
  rw [bgz hb];rfl
theorem bLh (hs:RS B s f) (t j:Nat) {x:AV} {v:FV} (hx:RV x v):Ok B RV (fun k=>V.opt (c9v P t j) fun z=>prV v z.1 z.2.1 z.2.2 f k) (CE.lift (bn1 P t x j) s):=by
 obtain ⟨rfl,ov⟩:=hx
 refine Ok.opt fun z hz=>?_
 cases v with
 | g tr n =>
  unfold c9v at hz
  split at hz
  ·rename_i fs x1 x2 x3 hty
   cases hj:fs[j]? with
   | none=>rw [hj] at hz;cases hz
   | some q =>
    obtain ⟨ft,off⟩:=q
    rw [hj] at hz
    dsimp only at hz
    cases hft:aYb P ft with
    | none=>rw [hft] at hz;cases hz
    | some ty =>
     rw [hft] at hz
     cases hz
     refine bDb hs ov (agg ty.d) off ty.size ?_
     show _=bn1 P t (.g (ajn tr 0 n)) j
     unfold bn1
     rw [hty];dsimp only;rw [hj];dsimp only
     unfold bys
     rw [hft]
  ·cases hz
 | _=>exact Ok.none
theorem bqq (hs:RS B s f) (t:Nat) {x ix:AV} {v w:FV} (hx:RV x v) (hi:RV ix w):Ok B RV (fun k=>V.opt (c9c P t) fun z=>bqu w fun j=>iaT z v j f k) (CE.lift (bb8 P t x ix) s):=by
 obtain ⟨rfl,ov⟩:=hx
 obtain ⟨rfl,ow⟩:=hi
 refine Ok.opt fun z hz=>?_
 intro k r hk
 obtain ⟨kd,j,rfl,hk⟩:=boc hk
 unfold c9c at hz
 cases hty:aYb P t with
 | none=>rw [hty] at hz;cases hz
 | some ty =>
  rw [hty] at hz
  dsimp only at hz
  have hia:bb8 P t (b8x v) (b8x (.i kd j))=(match ty.d,b8x v with
   | .arr n e,.p (some (k,o))=>match bau P e,Nat.ble (j+1) n with
    | some size,true=>some (.p (some (k,o+j * size)))
    | _,_=>none
   | .slice e,.sl (some (k,o)) n _=>match bau P e,Nat.ble (j+1) n with
    | some size,true=>some (.p (some (k,o+j * size)))
    | _,_=>none
   | _,_=>none):=by
   show bb8 P t (b8x v) (.i kd (.ofNat j))=_
   unfold bb8
   rw [hty];rfl
  rw [hia]
  cases hd:ty.d with
  | arr n e =>
   rw [hd] at hz
   dsimp only at hz
   cases hse:bau P e with
   | none=>rw [hse] at hz;cases hz
   | some size =>
    rw [hse] at hz
    cases hz
    cases v with
    | p q i o =>
     have hq:q=p4 i:=ov
     subst hq
     obtain ⟨h1,h2⟩:=b8n (show V.iff (Nat.ble (j+1) n) (k (.p (p4 i) i (o+j * size)) f)=some r from hk)
     refine ⟨_,f,_,s,?_,bXa i (o+j * size),hs,h2⟩
     show CE.lift (match bau P e,Nat.ble (j+1) n with | some size,true=>some (AV.p (some (i,o+j * size))) | _,_=>none) s=_
     rw [hse,h1];rfl
    | _=>cases hk
  | slice e =>
   rw [hd] at hz
   dsimp only at hz
   cases hse:bau P e with
   | none=>rw [hse] at hz;cases hz
   | some size =>
    rw [hse] at hz
    cases hz
    cases v with
    | s q i o n c =>
     have hq:q=p4 i:=ov
     subst hq
     obtain ⟨h1,h2⟩:=b8n (show V.iff (Nat.ble (j+1) n) (k (.p (p4 i) i (o+j * size)) f)=some r from hk)
     refine ⟨_,f,_,s,?_,bXa i (o+j * size),hs,h2⟩
     show CE.lift (match bau P e,Nat.ble (j+1) n with | some size,true=>some (AV.p (some (i,o+j * size))) | _,_=>none) s=_
     rw [hse,h1];rfl
    | _=>cases hk
  | _=>rw [hd] at hz;cases hz
theorem bLg (hs:RS B s f) (t:Nat) {x ix:AV} {v w:FV} (hx:RV x v) (hi:RV ix w):Ok B RV (fun k=>Option.rec (motive:=fun _=>Ans) (ixS P t v w f k) (fun z=>bqu w fun j=>V.iff (Nat.ble (Nat.succ j) z.1) (prV v z.2.1 (Nat.mul j z.2.2) z.2.2 f k)) (c5u P t)) (CE.lift (bkm P t x ix) s):=by
 obtain ⟨rfl,ov⟩:=hx
 obtain ⟨rfl,ow⟩:=hi
 cases hz:c5u P t with
 | none=>exact bdh hs
 | some z =>
  intro k r hk
  obtain ⟨kd,j,rfl,hk⟩:=boc (show bqu w _=some r from hk)
  obtain ⟨h1,hk⟩:=b8n hk
  unfold c5u at hz
  split at hz
  ·rename_i n e x1 x2 x3 hty
   cases hte:aYb P e with
   | none=>rw [hte] at hz;cases hz
   | some ty =>
    rw [hte] at hz
    cases hz
    cases v with
    | g tr m =>
     refine bDb hs ov (agg ty.d) (j * ty.size) ty.size ?_ k r hk
     show _=bkm P t (.g (ajn tr 0 m)) (.i kd (.ofNat j))
     unfold bkm
     rw [hty]
     dsimp only [bLp]
     have h1':Nat.ble (j+1) n=true:=h1
     unfold bau bys
     rw [hte,h1']
    | _=>cases hk
  ·cases hz
theorem bz0 (hs:RS B s f) (j:Nat) {x:AV} {v:FV} (hx:RV x v):Ok B RV (exV v j f) ((match x with
  | .t vs=>CE.lift vs[j]?
  | _=>fail) s):=by
 obtain ⟨rfl,ov⟩:=hx
 cases v with
 | t tr n =>
  show Ok B RV (fun k=>V.iff (Nat.ble (j+1) n) (k (aRb (p4 j) tr) f)) (CE.lift ((List.range n).map fun j=>bfc (aRb (p4 j) tr))[j]? s)
  refine Ok.iff fun h=>?_
  have hb:j < n:=bbm h
  have ho:okG (aRb (p4 j) tr):=ov j hb
  have e:((List.range n).map fun j=>bfc (aRb (p4 j) tr))[j]? = some (b8x (aRb (p4 j) tr)):=by
   rw [(bsw ho).1];simp [hb]
  rw [e]
  exact Ok.ret ⟨rfl,(bsw ho).2⟩ hs
 | _=>exact Ok.none
theorem bLf (hs:RS B s f) {x:AV} {v:FV} (hx:RV x v) {α β:Type} {R:α→β→Prop} {g:ME→QW→(β→QW→Ans)→Ans} {y:ME→X α} (h:∀ es f s,RS B s f→Ok B R (g es f) (y es s)):Ok B R (fun k=>mrC v f fun es f=>g es f k) (CE.bnd (br0 x) y s):=by
 obtain ⟨rfl,ov⟩:=hx
 unfold mrC br0
 generalize b8x v=x
 cases x with
 | m r =>
  cases r with
  | none=>exact h [] f s hs
  | some r =>
   intro k q hk
   obtain ⟨es,f1,a,s1,e,h1,h2,h3⟩:=bDa hs r (fun z f=>g z.1 f k) q hk
   subst h1
   obtain ⟨b,f2,c,s2,e2,h4,h5,h6⟩:=h a.1 f1 s1 h2 k q h3
   refine ⟨b,f2,c,s2,?_,h4,h5,h6⟩
   unfold CE.bnd
   dsimp only
   rw [e]
   exact e2
 | _=>exact Ok.none
theorem bDg (hs:RS B s f) {a:Fr} {fr:FF} (hf:RF a fr) (t:Nat) (x ix:Operand) (ok:Bool) (c:Cx) (hc:c.P=P):Ok B RV (bt4 t x ix ok c fr f) (bdj P t (aBu a x) (aBu a ix) ok s):=by
 subst hc
 unfold bt4 bE2 bdj
 rw [← (aAc hf ix).1]
 split
 ·rename_i kt et x1 x2 x3 hty
  rw [hty]
  dsimp only
  cases hk:aYb c.P kt with
  | none=>exact Ok.none
  | some kd =>
   cases hz:c55 c.P et with
   | none=>exact Ok.none
   | some z =>
    dsimp only
    refine Ok.iff fun h=>Ok.chk h ?_
    refine bLf hs (aAc hf x) fun es f s hs=>?_
    cases bri kd.d (aBu a ix) es with
    | none=>exact Ok.none
    | some o=>cases o<;>cases ok<;>exact Ok.ret (bC2 _) hs
 ·exact Ok.none
theorem bqn (hs:RS B s f) {a:Fr} {fr:FF} (hf:RF a fr) (t:Nat) (mp kx v:Operand) (c:Cx) (hc:c.P=P):Ok B RV (bhf t mp kx v c fr f) (CE.bnd (CE.chk (sc (aBu a kx)&&sc (aBu a v))) (fun _=>CE.bnd (b9s P t (aBu a mp) (aBu a kx) (aBu a v)) fun _=>CE.ret .u) s):=by
 subst hc
 unfold bhf bE0 b9s
 rw [← (aAc hf kx).1,← (aAc hf v).1,← (aAc hf mp).1]
 refine Ok.iff fun h=>Ok.chk h ?_
 generalize aBu a mp=m
 generalize aBu a kx=kv
 generalize aBu a v=vv
 split
 ·rename_i kt x0 x1 x2 x3 r hty
  rw [hty]
  dsimp only
  cases hk:aYb c.P kt with
  | none=>exact Ok.none
  | some kd =>
   dsimp only
   intro k q hq
   obtain ⟨h1,hq⟩:=b8n hq
   obtain ⟨es,f1,b,s1,e,h2,h3,h4⟩:=bDa hs r (fun z s=>match bHe kd.d kv vv z.2 z.1 with
     | some (es',c)=>wmC r es' c s (k .e)
     | none=>none) q hq
   subst h2
   obtain ⟨es,clock⟩:=b
   dsimp only at h4
   cases hu:bHe kd.d kv vv clock es with
   | none=>rw [hu] at h4;cases h4
   | some z =>
    obtain ⟨es',c'⟩:=z
    rw [hu] at h4
    obtain ⟨f2,s2,e2,h5,h6⟩:=c0j h3 r es' c' _ _ h4
    refine ⟨.e,f2,.u,s2,?_,bYy,h5,h6⟩
    rw [h1]
    show CE.bnd (CE.bnd (rdM r) _) _ s=_
    unfold CE.bnd
    rw [e]
    dsimp only
    rw [hu]
    dsimp only
    rw [e2]
    rfl
 ·exact Ok.none
end V
end Go.CE
namespace Go.CE
namespace V
variable [Sym] [avd]
variable {B:Nat} {s:St} {f:QW} {P:Program}
theorem bUr (hs:RS B s f) (t:Nat) {x:AV} {v:FV} (hx:RV x v):Ok B RV (bz9 P t v f) (bE9 P t x s):=by
 obtain ⟨rfl,ov⟩:=hx
 unfold bz9 bE9
 cases aYb P t with
 | none=>exact Ok.none
 | some ty =>
  dsimp only
  obtain ⟨d,x1,x2,x3⟩:=ty
  dsimp only
  generalize b8x v=x
  cases d with
  | str=>cases x<;>first | exact Ok.none | exact Ok.ret (bpc _ _) hs
  | arr n e=>cases x<;>exact Ok.ret (bpc _ _) hs
  | slice e=>cases x<;>first | exact Ok.none | exact Ok.ret (bpc _ _) hs
  | map a b =>
   cases x with
   | m r =>
    cases r with
    | none=>exact Ok.ret (bpc .i64 0) hs
    | some r =>
     intro k q hk
     obtain ⟨es,f1,c,s1,e,h1,h2,h3⟩:=bDa hs r (fun z f=>k (.i .i64 z.1.length) f) q hk
     subst h1
     refine ⟨_,f1,.i .i64 (.ofNat c.1.length),s1,?_,bpc _ _,h2,h3⟩
     show CE.bnd (rdM r) (fun x=>CE.ret (AV.i .i64 (.ofNat x.1.length))) s=_
     unfold CE.bnd
     rw [e];rfl
   | _=>exact Ok.none
  | _=>exact Ok.none
theorem c0w (hs:RS B s f) (t:Nat) {x:AV} {v:FV} (hx:RV x v):Ok B RV (bRk v P t f) (bE9 P t x s):=by
 have h:=bUr (P:=P) hs t hx
 cases v with
 | s q i o n c =>
  show Ok B RV (fun k=>Bool.rec (motive:=fun _=>Ans) (bz9 P t (.s q i o n c) f k) (k (.i .i64 n) f) (slD P t)) _
  cases hd:slD P t with
  | false=>exact h
  | true =>
   refine Ok.eq (Ok.ret (bpc .i64 n) hs) ?_
   obtain ⟨rfl,_⟩:=hx
   unfold slD at hd
   split at hd
   ·rename_i e x1 x2 x3 hty
    unfold bE9
    rw [hty];rfl
   ·cases hd
 | _=>exact h
def c4e (a:Nat×List AV) (b:Nat×FV×Nat):Prop:=a.1=b.1∧a.2=ajn b.2.1 0 b.2.2∧b9f b.2.1 b.2.2
theorem bpv (x:List Nat):ajn (azg (x.map fun c=>.i .u8 (.ofNat c))) 0 x.length=(x.map fun c=>AV.i .u8 (.ofNat c))∧b9f (azg (x.map fun c=>.i .u8 (.ofNat c))) x.length:=by
 have h:aRg (x.map fun c=>AV.i .u8 (.ofNat c))=true:=beo fun v hv=>by obtain ⟨c,_,rfl⟩:=List.mem_map.mp hv;rfl
 have:=aRh _ h
 rw [List.length_map] at this
 exact this
theorem bPr (hs:RS B s f) (size:Nat) {x:AV} {v:FV} (hx:RV x v):Ok B c4e (fun k=>c7g v size f fun n t c f=>k (n,t,c) f) (bH4 size x s):=by
 obtain ⟨rfl,ov⟩:=hx
 cases v with
 | s q i o n c =>
  have hq:q=p4 i:=ov
  subst hq
  refine Ok.bnd (g:=fun v f k=>k (n,bMn v,n * size) f) (bd0 hs i o (n * size)) fun v f l s hv hs=>?_
  obtain ⟨t,rfl,rfl,ht⟩:=hv
  exact Ok.ret (show c4e (n,_) (n,t,n * size) from ⟨rfl,rfl,ht⟩) hs
 | o a =>
  cases a with
  | sl b n c =>
   cases b with
   | none =>
    cases n with
    | zero=>exact Ok.ret (show c4e (0,[]) (0,.e,0) from ⟨rfl,rfl,fun j h=>absurd (show j < 0 from h) (by omega)⟩) hs
    | succ n=>exact Ok.none
   | some b=>exact Ok.none
  | se=>exact Ok.ret (show c4e (0,[]) (0,.e,0) from ⟨rfl,rfl,fun j h=>absurd (show j < 0 from h) (by omega)⟩) hs
  | s x=>exact Ok.ret (show c4e (x.length,_) (x.length,azg _,x.length) from ⟨rfl,(bpv x).1.symm,(bpv x).2⟩) hs
  | _=>exact Ok.none
 | _=>exact Ok.none
theorem bn5 {t:FV} {n:Nat} : ∃ l,ajn t 0 (n+1)=bbo (aRb (p4 0) t) :: l:=by
 cases hc:ajn t 0 (n+1) with
 | nil=>have:=avg t 0 (n+1);rw [hc] at this;simp at this
 | cons a l =>
  have h0:=avc t 0 (n+1) 0
  rw [hc] at h0
  simp at h0
  exact ⟨l,by rw [h0]⟩
theorem bF1 (old new:FV) (off nc j:Nat) (h:j < off+nc):aRb (p4 j) (jnT old new off nc)=if off≤j then aRb (p4 (j - off)) new else aRb (p4 j) old:=by
 unfold jnT
 cases e:Nat.beq off 0 with
 | false =>
  show aRb (p4 j) (ovT old new off nc)=_
  rw [bkq]
  by_cases h1:off≤j
  ·rw [if_pos h1,if_pos ⟨h1,h⟩]
  ·rw [if_neg h1,if_neg (by omega)]
 | true=>have:=be1 e;subst this;show aRb (p4 j) new=_;rw [if_pos (by omega),Nat.sub_zero]
theorem bxr {old new:FV} {off nc:Nat} (ho:b9f old off) (hn:b9f new nc):ajn (jnT old new off nc) 0 (off+nc)=ajn old 0 off++ajn new 0 nc∧b9f (jnT old new off nc) (off+nc):=by
 constructor
 ·apply List.ext_getElem?
  intro j
  rw [avc]
  by_cases hj:j < off+nc
  ·rw [if_pos hj,Nat.zero_add,bF1 _ _ _ _ _ hj]
   by_cases h1:off≤j
   ·rw [if_pos h1,List.getElem?_append_right (by rw [avg];exact h1),avg,avc,if_pos (by omega),Nat.zero_add]
   ·rw [if_neg h1,List.getElem?_append_left (by rw [avg];omega),avc,if_pos (by omega),Nat.zero_add]
  ·rw [if_neg hj]
   exact (List.getElem?_eq_none (by simp [avg];omega)).symm
 ·intro j hj
  rw [bF1 _ _ _ _ _ hj]
  by_cases h1:off≤j
  ·rw [if_pos h1];exact hn _ (by omega)
  ·rw [if_neg h1];exact ho _ (by omega)
theorem bwk (hs:RS B s f) {old new:FV} {off nc:Nat} (e cnt:Nat) (ho:b9f old off) (hn:b9f new nc):Ok B RV (bWl old new off nc e cnt f) (CE.bnd (ba9 true (.cells (ajn old 0 off++ajn new 0 nc) e)) (fun q=>CE.ret (AV.sl (some (q,0)) cnt cnt)) s) :=
 b4w hs true e (bxr ho hn).1 (bxr ho hn).2 (x:=fun q i f k=>k (FV.s q i 0 cnt cnt) f) fun i f s hs=>Ok.ret (bO0 i 0 cnt cnt) hs
theorem c1d (hs:RS B s f) (e size cnt nc:Nat) {new:FV} (hn:b9f new nc) {d:AV} {v:FV} (hd:RV d v):Ok B RV (apV v e size cnt new nc f) ((match d with
    | .sl base n c=>match Nat.ble (n+cnt) c with
     | true=>match base with
      | some (b,o)=>match ajn new 0 nc with
       | []=>CE.ret (AV.sl base (n+cnt) c)
       | _ :: _=>CE.bnd (wrK b (o+n * size) (ajn new 0 nc)) fun _=>CE.ret (AV.sl base (n+cnt) c)
      | none=>CE.ret (AV.sl base (n+cnt) c)
     | false=>CE.bnd (CE.chk (Nat.ble (n+cnt) 1000000)) fun _=>match base with
      | none=>match n with
       | 0=>CE.bnd (ba9 true (.cells (ajn new 0 nc) e)) fun q=>CE.ret (AV.sl (some (q,0)) cnt cnt)
       | _+1=>fail
      | some (b,o)=>CE.bnd (rdK b o (n * size)) fun old=>match gw b with
       | true=>CE.bnd (rdT b) fun T=>CE.bnd (CE.chk (Nat.beq T e&&Nat.ble roB b)) fun _=>CE.bnd (blu b) fun _=>CE.bnd (ba9 true (.cells (old++ajn new 0 nc) e)) fun q=>CE.ret (AV.sl (some (q,0)) (n+cnt) (n+cnt))
       | false=>CE.bnd (ba9 true (.cells (old++ajn new 0 nc) e)) fun q=>CE.ret (AV.sl (some (q,0)) (n+cnt) (n+cnt))
    | _=>fail) s):=by
 obtain ⟨rfl,ov⟩:=hd
 cases v with
 | s q b o n c =>
  have hq:q=p4 b:=ov
  subst hq
  show Ok B RV (fun k=>apS (p4 b) b o n c e size cnt new nc f k) _
  unfold apS
  show Ok B RV _ ((match Nat.ble (n+cnt) c with
     | true=>match ajn new 0 nc with
       | []=>CE.ret (AV.sl (some (b,o)) (n+cnt) c)
       | _ :: _=>CE.bnd (wrK b (o+n * size) (ajn new 0 nc)) fun _=>CE.ret (AV.sl (some (b,o)) (n+cnt) c)
     | false=>CE.bnd (CE.chk (Nat.ble (n+cnt) 1000000)) fun _=>CE.bnd (rdK b o (n * size)) fun old=>match gw b with
       | true=>CE.bnd (rdT b) fun T=>CE.bnd (CE.chk (Nat.beq T e&&Nat.ble roB b)) fun _=>CE.bnd (blu b) fun _=>CE.bnd (ba9 true (.cells (old++ajn new 0 nc) e)) fun q=>CE.ret (AV.sl (some (q,0)) (n+cnt) (n+cnt))
       | false=>CE.bnd (ba9 true (.cells (old++ajn new 0 nc) e)) fun q=>CE.ret (AV.sl (some (q,0)) (n+cnt) (n+cnt))) s)
  cases Nat.ble (n+cnt) c with
  | true =>
   dsimp only
   cases nc with
   | zero=>exact Ok.ret (bO0 b o _ _) hs
   | succ nc =>
    obtain ⟨l,hl⟩:=bn5 (t:=new) (n:=nc)
    have hw:=bD8 hs b (o+n * size) (nc+1) hn
    rw [hl] at hw ⊢
    exact OkS.bnd (g:=fun f k=>k (FV.s (p4 b) b o (n+cnt) c) f) hw fun f s hs=>Ok.ret (bO0 b o _ _) hs
  | false =>
   dsimp only
   refine Ok.iff fun h=>Ok.chk h ?_
   refine Ok.bnd (bd0 hs b o (n * size)) fun v f l s hv hs=>?_
   obtain ⟨t,rfl,rfl,ht⟩:=hv
   cases gw b with
   | false=>exact bwk hs e _ ht hn
   | true =>
    refine Ok.bnd (bwh hs b) fun T f T' s hT hs=>?_
    subst hT
    refine Ok.iff fun h1=>Ok.iff fun h2=>Ok.chk (by rw [h1];exact h2) ?_
    exact OkS.bnd (bUs hs b) fun f s hs=>bwk hs e _ ht hn
 | o a =>
  cases a with
  | sl bs n c =>
   cases bs with
   | some b=>exact Ok.none
   | none =>
    clear ov
    show Ok B RV (fun k=>Bool.rec (motive:=fun _=>Ans) (V.iff (Nat.ble (n+cnt) 1000000) (V.iff (Nat.beq n 0) (bem true (.cells new nc e) f fun q i s=>k (.s q i 0 cnt cnt) s))) (k (.o (.sl none (n+cnt) c)) f) (Nat.ble (n+cnt) c)) ((match Nat.ble (n+cnt) c with
     | true=>CE.ret (AV.sl none (n+cnt) c)
     | false=>CE.bnd (CE.chk (Nat.ble (n+cnt) 1000000)) fun _=>match n with
       | 0=>CE.bnd (ba9 true (.cells (ajn new 0 nc) e)) fun q=>CE.ret (AV.sl (some (q,0)) cnt cnt)
       | _+1=>fail) s)
    cases Nat.ble (n+cnt) c with
    | true=>exact Ok.ret ⟨rfl,rfl⟩ hs
    | false =>
     dsimp only
     refine Ok.iff fun h=>Ok.chk h ?_
     cases n with
     | zero=>exact b4w hs true e rfl hn (x:=fun q i f k=>k (FV.s q i 0 cnt cnt) f) fun i f s hs=>Ok.ret (bO0 i 0 cnt cnt) hs
     | succ n=>exact Ok.none
  | _=>exact Ok.none
 | _=>exact Ok.none
theorem bDl (hs:RS B s f) (t xt:Nat) {d x:AV} {v w:FV} (hd:RV d v) (hx:RV x w):Ok B RV (bla P t xt v w f) (bdq P t xt d x s):=by
 refine Ok.opt fun z hz=>?_
 unfold apOf at hz
 unfold bdq
 split at hz
 ·rename_i e x1 x2 x3 hty
  rw [hty]
  dsimp only
  cases hte:aYb P e with
  | none=>rw [hte] at hz;cases hz
  | some ty =>
   rw [hte] at hz
   dsimp only at hz ⊢
   cases hc:(!bkk P xt&&Nat.beq ty.zero.length ty.size&&Nat.ble ty.bytes 100000) with
   | false=>rw [hc] at hz;cases hz
   | true =>
    rw [hc] at hz
    cases hz
    refine Ok.chk rfl ?_
    refine Ok.bnd (g:=fun z f k=>V.iff (Nat.beq z.2.2 (Nat.mul z.1 ty.size)) (apV v e ty.size z.1 z.2.1 z.2.2 f k)) (bPr hs ty.size hx) fun z f a s h hs=>?_
    obtain ⟨cnt,new,nc⟩:=z
    obtain ⟨k,l⟩:=a
    obtain ⟨rfl,rfl,hn⟩:=(show k=cnt∧l=ajn new 0 nc∧b9f new nc from h)
    refine Ok.iff fun h1=>?_
    refine Ok.chk (by rw [be7 hn,avg];exact h1) ?_
    exact c1d hs e ty.size k nc hn hd
 ·cases hz
theorem bUt (hs:RS B s f) (t:Nat) {d x:AV} {v w:FV} (hd:RV d v) (hx:RV x w):Ok B RV (c3x P t v w f) (bp0 P t d x s):=by
 refine Ok.opt fun size hz=>?_
 unfold cpOf at hz
 unfold bp0
 split at hz
 ·rename_i e x1 x2 x3 hty
  rw [hty]
  dsimp only
  cases hte:aYb P e with
  | none=>rw [hte] at hz;cases hz
  | some ty =>
   rw [hte] at hz
   cases hz
   dsimp only
   refine Ok.bnd (g:=fun z f k=>V.iff (Nat.beq z.2.2 (Nat.mul z.1 ty.size)) (cpV v ty.size z.1 z.2.1 f k)) (bPr hs ty.size hx) fun z f a s h hs=>?_
   obtain ⟨cnt,new,nc⟩:=z
   obtain ⟨k,l⟩:=a
   obtain ⟨rfl,rfl,hn⟩:=(show k=cnt∧l=ajn new 0 nc∧b9f new nc from h)
   refine Ok.iff fun h1=>?_
   refine Ok.chk (by rw [be7 hn,avg];exact h1) ?_
   have hnc:nc=k * ty.size:=be1 h1
   obtain ⟨rfl,ov⟩:=hd
   cases v with
   | s q b o n c =>
    have hq:q=p4 b:=ov
    subst hq
    show Ok B RV (fun kk=>Nat.rec (motive:=fun _=>Ans) (kk (.i .i64 (bwy k n)) f) (fun _ _=>bSa (p4 b) b o new (Nat.mul (bwy k n) ty.size) f (kk (.i .i64 (bwy k n)))) (Nat.mul (bwy k n) ty.size)) ((match cut (ajn new 0 nc) 0 (min k n * ty.size) with
     | some []=>CE.ret (AV.i .i64 (.ofNat (min k n)))
     | some (v :: vs)=>CE.bnd (wrK b o (v :: vs)) fun _=>CE.ret (AV.i .i64 (.ofNat (min k n)))
     | none=>fail) s)
    rw [bu9]
    have hle:0+min k n * ty.size≤nc:=by rw [hnc,Nat.zero_add];exact Nat.mul_le_mul_right _ (Nat.min_le_left _ _)
    rw [bgz hle]
    have hok:b9f new (min k n * ty.size):=fun j hj=>hn j (by omega)
    show Ok B RV (fun kk=>Nat.rec (motive:=fun _=>Ans) (kk (.i .i64 (min k n)) f) (fun _ _=>bSa (p4 b) b o new (min k n * ty.size) f (kk (.i .i64 (min k n)))) (min k n * ty.size)) _
    generalize min k n * ty.size=m at hok
    cases m with
    | zero=>exact Ok.ret (bpc _ _) hs
    | succ m =>
     obtain ⟨l,hl⟩:=bn5 (t:=new) (n:=m)
     have hw:=bD8 hs b o (m+1) hok
     rw [hl] at hw ⊢
     exact OkS.bnd (g:=fun f k'=>k' (FV.i .i64 (min k n)) f) hw fun f s hs=>Ok.ret (bpc _ _) hs
   | o a =>
    cases a with
    | sl bs n c =>
     cases bs with
     | some b=>exact Ok.none
     | none =>
      cases n with
      | zero=>exact Ok.ret (bpc .i64 0) hs
      | succ n=>exact Ok.none
    | se=>exact Ok.ret (bpc .i64 0) hs
    | _=>exact Ok.none
   | _=>exact Ok.none
 ·cases hz
def RVs (a:List AV) (l:List FV):Prop:=a=l.map b8x∧∀ v∈l,okV v
theorem c8q (hs:RS B s f) (bi:Builtin) (ts:List Nat) {a:List AV} {l:List FV} (h:RVs a l):Ok B RV (biC bi ts l P f) (bbv P bi ts a s):=by
 obtain ⟨rfl,ho⟩:=h
 have rv:∀ v∈l,RV (b8x v) v:=fun v hv=>⟨rfl,ho v hv⟩
 unfold biC bbv
 split
 ·exact c0w hs _ (rv _ (by simp))
 ·exact bDl hs _ _ (rv _ (by simp)) (rv _ (by simp))
 ·exact bUt hs _ (rv _ (by simp)) (rv _ (by simp))
 ·exact bdh hs
 ·exact bdh hs
 ·exact Ok.none
end V
end Go.CE
namespace Go.CE
namespace V
variable [Sym] [avd]
variable {B:Nat} {s:St} {f:QW}
def bbr (q:CF) (y:Nat→List AV→X AV):Prop:=∀ (B:Nat) (s:St) (f:QW) (k:Nat) (a:List AV) (l:List FV),RS B s f→RVs a l→Ok B RV (q k l f) (y k a s)
theorem RVs.nil:RVs [] []:=⟨rfl,fun _ h=>by cases h⟩
theorem RVs.cons {a:AV} {v:FV} {as:List AV} {vs:List FV} (h:RV a v) (hs:RVs as vs):RVs (a :: as) (v :: vs):=⟨by rw [h.1,hs.1];rfl,fun w hw=>by
 rcases List.mem_cons.mp hw with rfl | hw
 ·exact h.2
 ·exact hs.2 w hw⟩
theorem RVs.append {as bs:List AV} {vs ws:List FV} (h:RVs as vs) (h2:RVs bs ws):RVs (as++bs) (vs++ws):=⟨by rw [h.1,h2.1,List.map_append],fun w hw=>by
 rcases List.mem_append.mp hw with hw | hw
 ·exact h.2 w hw
 ·exact h2.2 w hw⟩
theorem bnq {a:Fr} {fr:FF} (hf:RF a fr):∀ l:List Operand,RVs (l.map (aBu a)) (bp9 l fr)
 | []=>RVs.nil
 | x :: l=>RVs.cons (aAc hf x) (bnq hf l)
theorem bGp:∀ l r:List FV,c67 l r=l++r
 | [],r=>rfl
 | x :: l,r=>by show x :: c67 l r=_;rw [bGp l r];rfl
theorem bgi {bs:List AV} {r:List FV} (h:RVs bs r):∀ as:List AV,RVs (as++bs) (bua as r)
 | []=>h
 | x :: as=>RVs.cons (bC2 x) (bgi h as)
theorem bLi (hs:RS B s f) {qc qy:CF} {call yl:Nat→List AV→X AV} (hc:bbr qc call) (hy:bbr qy yl) {g:AV} {v:FV} (hg:RV g v) {a:List AV} {l:List FV} (h:RVs a l):Ok B RV (bGd v l qc qy f) ((match g with
   | .f fn x cp=>call fn (x++a++cp)
   | .y l=>yl l a
   | _=>fail) s):=by
 obtain ⟨rfl,ov⟩:=hg
 cases v with
 | o x =>
  cases x with
  | f fn x cp =>
   show Ok B RV (qc fn (bua x (c67 l (bua cp []))) f) (call fn (x++a++cp) s)
   refine hc B s f fn _ _ hs ?_
   rw [List.append_assoc,bGp]
   refine bgi (h.append ?_) x
   have:=bgi RVs.nil cp
   rwa [List.append_nil] at this
  | y l'=>exact hy B s f l' _ _ hs h
  | _=>exact Ok.none
 | _=>exact Ok.none
theorem c8o {P:Program} (hs:RS B s f) {a:Fr} {fr:FF} (hf:RF a fr) {c:Cx} {call yl:Nat→List AV→X AV} (hP:c.P=P) (hc:bbr c.call call) (hy:bbr c.yl yl) (o:Op):Ok B RV (opC o c fr f) (bdv P call yl a o s):=by
 subst hP
 cases o with
 | move x=>exact Ok.ret (aAc hf x) hs
 | assign x=>exact Ok.ret (aAc hf x) hs
 | pick x y z =>
  show Ok B RV (fun k=>_) ((match aBu a x with
   | .b true=>CE.ret (aBu a y)
   | .b false=>CE.ret (aBu a z)
   | _=>fail) s)
  obtain ⟨e,ov⟩:=aAc hf x
  rw [e]
  show Ok B RV (bS8 x y z c fr f) _
  unfold bS8
  generalize oV x fr=v at ov
  cases v with
  | b v =>
   cases v with
   | true=>exact Ok.ret (aAc hf y) hs
   | false=>exact Ok.ret (aAc hf z) hs
  | _=>exact Ok.none
 | alloc t=>exact bLk hs t c fr rfl
 | box t x=>exact c1b hs t (aAc hf x)
 | build t ps=>exact bLj hs hf t ps c rfl
 | buildSlice t len ps=>exact bo9 hs hf t len ps c rfl
 | load t x=>exact bDh hs t (aAc hf x)
 | store t x y =>
  show Ok B RV (bAg t x y c fr f) ((match aYb c.P t with
   | some ty=>CE.bnd (bgd ty (aBu a x) (aBu a y)) fun _=>CE.ret AV.u
   | none=>fail) s)
  unfold bAg bnl
  cases aYb c.P t with
  | none=>exact Ok.none
  | some ty=>exact bLd hs ty (aAc hf x) (aAc hf y)
 | nilCheck x=>exact c0s hs (aAc hf x)
 | binOp op t x y u=>exact c1c hs op t (aAc hf x) (aAc hf y)
 | unOp op t x=>exact c8m (t:=t) hs op (aAc hf x)
 | convert x y z=>exact bUu hs x y z hf c rfl
 | makeFunc fn x y =>
  cases fn with
  | func g =>
   show Ok B RV (fun k=>k (.o (.f g (bXs (bp9 x.toList fr)) (bXs (bp9 y.toList fr)))) f) (CE.ret (AV.f g (x.toList.map (aBu a)) (y.toList.map (aBu a))) s)
   rw [bvg hf,bvg hf]
   exact Ok.ret ⟨rfl,rfl⟩ hs
  | _=>exact Ok.none
 | makeMap t r =>
  cases r with
  | none =>
    intro k r hk
    obtain ⟨i,f',s',e,h1,h2⟩:=bDf hs false (.map [] 0) _ r hk
    refine ⟨.o (.m (some i)),f',.m (some i),s',?_,⟨rfl,rfl⟩,h1,h2⟩
    show CE.bnd (ba9 false (.map [] 0)) (fun k=>CE.ret (AV.m (some k))) s=_
    unfold CE.bnd
    rw [e];rfl
  | some x=>exact Ok.none
 | makeSlice t l cp=>exact bqp hs hf t l cp c rfl
 | slice t x lo hi mx=>exact ok_slice hs hf t x lo hi mx c rfl
 | fieldAddr t x j=>exact bqr hs t j (aAc hf x)
 | field t x j=>exact bLh hs t j (aAc hf x)
 | indexAddr t x ix=>exact bqq hs t (aAc hf x) (aAc hf ix)
 | index t x ix=>exact bLg hs t (aAc hf x) (aAc hf ix)
 | lookup t x ix ok=>exact bDg hs hf t x ix ok c rfl
 | mapUpdate t m k v=>exact bqn hs hf t m k v c rfl
 | extract x j=>exact bz0 hs j (aAc hf x)
 | call cl =>
  obtain ⟨callee,args,ts⟩:=cl
  cases callee with
  | value g=>exact bLi hs hc hy (aAc hf g) (bnq hf args.toList)
  | invoke r m=>exact Ok.none
  | builtin bi=>exact c8q hs bi ts.toList (bnq hf args.toList)
 | _=>exact Ok.none
theorem bDj (hs:RS B s f) {a:Fr} {fr:FF} (hf:RF a fr) (d:Option Nat) {x:AV} {v:FV} (hx:RV x v):Ok B RF (bA9 d fr v f) (a.lay d x s):=by
 cases d with
 | none=>exact Ok.ret hf hs
 | some i =>
  obtain ⟨t,nt,mks⟩:=fr
  obtain ⟨ta,nta,ma⟩:=a
  have h1:nta=nt:=hf.nt
  have h2:ma=mks:=hf.mks
  subst h1;subst h2
  show Ok B RF (fun k=>V.iff (Nat.ble (i+1) nta) (k ⟨bg8 (p4 i) v t,nta,ma⟩ f)) ((match Nat.ble (i+1) nta with
   | true=>CE.ret (Fr.mk (ta.set i (some x)) nta ma)
   | false=>fail) s)
  cases Nat.ble (i+1) nta with
  | false=>exact Ok.none
  | true =>
   refine Ok.ret ⟨rfl,rfl,fun j=>?_⟩ hs
   show (match (ta.set i (some x)).get j with | some v=>v | none=>AV.u)=b8x (aRb (p4 j) (bg8 (p4 i) v t))∧_
   rw [Tr.azk]
   dsimp only
   rw [azk]
   by_cases hj:j=i
   ·rw [if_pos hj,if_pos hj];exact hx
   ·rw [if_neg hj,if_neg hj];exact hf.slot j
theorem c3p (a b:Bool):eqB a b=(a == b):=by cases a<;>cases b<;>rfl
theorem bDd {P:Program} (hs:RS B s f) {a:Fr} {fr:FF} (hf:RF a fr) {c:Cx} {call yl:Nat→List AV→X AV} (hP:c.P=P) (hc:bbr c.call call) (hy:bbr c.yl yl) (o:Oper):Ok B RF (c0i o c fr f) (bch P call yl c.ops a o s):=by
 obtain ⟨d,op,t,pos,af,g⟩:=o
 have go:Ok B RF (fun k=>opC op c fr f fun v f=>bA9 d fr v f k) (CE.bnd (bdv P call yl a op) (fun v=>a.lay d v) s) :=
  Ok.bnd (c8o hs hf hP hc hy op) fun v f x s hx hs=>bDj hs hf d hx
 cases g with
 | none=>exact go
 | some g =>
  obtain ⟨j,want⟩:=g
  have no:Ok B RF (bA9 d fr .e f) (a.lay d .u s):=bDj hs hf d bYy
  show Ok B RF (fun k=>Option.rec (motive:=fun _=>Ans) (bA9 d fr .e f k) (fun t=>aWg (oT t fr) want (opC op c fr f fun v f=>bA9 d fr v f k) (bA9 d fr .e f k)) (bVx c.ops j)) ((match (match c.ops[j]? with
   | none=>some false
   | some q=>match q.dst with
    | none=>some false
    | some t=>match a.at t with
     | .b v=>some (v == want)
     | .bad=>none
     | _=>some false) with
   | some true=>CE.bnd (bdv P call yl a op) fun v=>a.lay d v
   | some false=>a.lay d .u
   | none=>fail) s)
  unfold bVx
  cases c.ops[j]? with
  | none=>exact no
  | some q =>
   dsimp only
   cases q.dst with
   | none=>exact no
   | some t =>
    dsimp only
    obtain ⟨e,ov⟩:=aAc hf (.tmp t)
    have e':a.at t=b8x (oT t fr):=e
    rw [e']
    generalize hv:oT t fr=v
    have ov':okV v:=by rw [← hv];exact ov
    cases v with
    | b v =>
     show Ok B RF (fun k=>Bool.rec (motive:=fun _=>Ans) (bA9 d fr .e f k) (opC op c fr f fun v f=>bA9 d fr v f k) (eqB v want)) ((match some (v == want) with
      | some true=>CE.bnd (bdv P call yl a op) fun v=>a.lay d v
      | some false=>a.lay d .u
      | none=>fail) s)
     rw [c3p]
     cases v == want with
     | true=>exact go
     | false=>exact no
    | w x =>
     have hsc:sc x=false:=ov'
     cases x<;>first | exact Ok.none | exact no | (simp [sc] at hsc)
    | o x =>
     have hsc:sc x=true:=ov'
     cases x with
     | b v=>exact Ok.none
     | _=>first | exact no | (simp [sc] at hsc)
    | _=>exact no
theorem bPu {P:Program} {c:Cx} {call yl:Nat→List AV→X AV} (hP:c.P=P) (hc:bbr c.call call) (hy:bbr c.yl yl):∀ (l:List Oper) (B:Nat) (s:St) (f:QW) (a:Fr) (fr:FF),RS B s f→RF a fr→Ok B RF (c8g l c fr f) (bow P call yl c.ops l a s)
 | [],B,s,f,a,fr,hs,hf=>Ok.ret hf hs
 | o :: l,B,s,f,a,fr,hs,hf=>Ok.bnd (g:=fun fr f k=>c8g l c fr f k) (x:=c0i o c fr f) (bDd hs hf hP hc hy o) fun fr f a s hf hs=>bPu hP hc hy l B s f a fr hs hf
end V
end Go.CE
namespace Go.CE
namespace V
variable [Sym] [avd]
variable {B:Nat} {s:St} {f:QW}
inductive bH7 {α β:Type} (R:α→β→Prop):List α→List β→Prop
 | nil:bH7 R [] []
 | cons {a:α} {b:β} {as:List α} {bs:List β}:R a b→bH7 R as bs→bH7 R (a :: as) (b :: bs)
def QR (a:List LE×List LE) (q:QF):Prop:=(∀ e∈a.1,(q.lo≤e.k∧e.k < q.hi)∨e∈q.lg)∧∀ e∈a.2,(q.lo≤e.k∧e.k < q.hi)∨e∈q.wl
theorem bc7 {a:LE}:∀ {l:List LE},boo a l=false→∀ e∈l,hits a e=false
 | b :: l,h,e,he=>by
  unfold boo at h
  cases hb:hits a b with
  | true=>simp [hb] at h
  | false =>
   simp [hb] at h
   rcases List.mem_cons.mp he with rfl | he
   ·exact hb
   ·exact bc7 h e he
theorem bkn {a:LE}:∀ {l:List LE},(∀ e∈l,hits a e=false)→boo a l=false
 | [],_=>rfl
 | b :: l,h=>by
  unfold boo
  rw [h b (by simp)]
  exact bkn fun e he=>h e (by simp [he])
theorem bhs:∀ {w l:List LE},clear w l=true→∀ a∈w,∀ e∈l,hits a e=false
 | b :: w,l,h,a,ha,e,he=>by
  unfold clear at h
  cases hb:boo b l with
  | true=>simp [hb] at h
  | false =>
   simp [hb] at h
   rcases List.mem_cons.mp ha with rfl | ha
   ·exact bc7 hb e he
   ·exact bhs h a ha e he
theorem bg1:∀ {w l:List LE},(∀ a∈w,∀ e∈l,hits a e=false)→clear w l=true
 | [],l,_=>by unfold clear;rfl
 | b :: w,l,h=>by
  unfold clear
  rw [bkn (h b (by simp))]
  exact bg1 fun a ha=>h a (by simp [ha])
theorem bho {a b:LE} (h:a.k≠b.k):hits a b=false:=by unfold hits;rw [bRw h]
theorem bek {lo hi:Nat}:∀ {l:List LE},bk8 lo hi l=true→∀ e∈l,¬(lo≤e.k∧e.k < hi)
 | b :: l,h,e,he=>by
  unfold bk8 at h
  cases hb:(Nat.ble lo b.k&&Nat.ble (b.k+1) hi) with
  | true=>rw [hb] at h;cases h
  | false =>
   rw [hb] at h
   rcases List.mem_cons.mp he with rfl | he
   ·rintro ⟨h1,h2⟩
    have e1:Nat.ble lo e.k=true:=Nat.ble_eq_true_of_le h1
    have e2:Nat.ble (e.k+1) hi=true:=Nat.ble_eq_true_of_le h2
    rw [e1,e2] at hb;cases hb
   ·exact bek h e he
theorem byu {a b:List LE×List LE} {p q:QF} (ha:QR a p) (hb:QR b q) (h:bqj p q=true):clear a.2 b.1=true∧clear b.2 a.1=true:=by
 obtain ⟨lg,wl,lo,hi⟩:=p
 obtain ⟨lg',wl',lo',hi'⟩:=q
 unfold bqj at h
 simp only [Bool.and_eq_true,Bool.or_eq_true] at h
 obtain ⟨⟨⟨⟨⟨⟨h1,h2⟩,h3⟩,h4⟩,h5⟩,h6⟩,h7⟩:=h
 have h2:=bek h2
 have h3:=bek h3
 have h4:=bek h4
 have h5:=bek h5
 have hr:∀ x y:Nat,(lo≤x∧x < hi)→(lo'≤y∧y < hi')→x≠y:=fun x y hx hy=>by
  rcases h1 with h1 | h1
  ·have:=bbm h1;omega
  ·have:=bbm h1;omega
 constructor
 ·refine bg1 fun x hx y hy=>?_
  rcases ha.2 x hx with h8 | h8
  ·rcases hb.1 y hy with h9 | h9
   ·exact bho (hr _ _ h8 h9)
   ·refine bho fun e=>h2 y h9 ?_;rw [← e];exact h8
  ·rcases hb.1 y hy with h9 | h9
   ·refine bho fun e=>h5 x h8 ?_;rw [e];exact h9
   ·exact bhs h6 x h8 y h9
 ·refine bg1 fun x hx y hy=>?_
  rcases hb.2 x hx with h8 | h8
  ·rcases ha.1 y hy with h9 | h9
   ·exact bho fun e=>hr _ _ h9 h8 e.symm
   ·refine bho fun e=>h4 y h9 ?_;rw [← e];exact h8
  ·rcases ha.1 y hy with h9 | h9
   ·refine bho fun e=>h3 x h8 ?_;rw [e];exact h9
   ·exact bhs h7 x h8 y h9
def FtR (a:bjd) (z:bjd×QF):Prop:=a.ins=z.1.ins∧a.dst=z.1.dst∧QR (a.lg,a.wl) z.2
theorem bh7 {bef:Nat} {b bst:bjd} {q:QF} (hb:FtR b (bst,q)):∀ {pre:List bjd} {zs:List (bjd×QF)} {m:List Bool} {j:Nat},bH7 FtR pre zs→prs bef bst (zs.map (·.1)) j=some m→bW8 q m (zs.map (·.2))=true→bdr bef b pre j=true
 | _,_,_,_,.nil,_,_=>rfl
 | _,_,m,j,.cons (a:=a) (b:=z) (as:=as) (bs:=zs) h hs,h1,h2=>by
  have h1:(match bef.testBit j with
  | true=>match prs bef bst (zs.map (·.1)) (j+1) with
   | some r=>some (false :: r)
   | none=>none
  | false=>match bv4 z.1.dst bst.ins&&bv4 z.1.dst bst.dst&&bv4 bst.dst z.1.ins with
   | true=>match prs bef bst (zs.map (·.1)) (j+1) with
    | some r=>some (true :: r)
    | none=>none
   | false=>none)=some m:=h1
  unfold bdr
  cases hb2:bef.testBit j with
  | true =>
   rw [hb2] at h1
   dsimp only at h1
   cases hp:prs bef bst (zs.map (·.1)) (j+1) with
   | none=>rw [hp] at h1;cases h1
   | some r =>
    rw [hp] at h1
    cases h1
    rw [Bool.true_or]
    exact bh7 hb hs hp h2
  | false =>
   rw [hb2] at h1
   dsimp only at h1
   cases hd:(bv4 z.1.dst bst.ins&&bv4 z.1.dst bst.dst&&bv4 bst.dst z.1.ins) with
   | false=>rw [hd] at h1;cases h1
   | true =>
    rw [hd] at h1
    dsimp only at h1
    cases hp:prs bef bst (zs.map (·.1)) (j+1) with
    | none=>rw [hp] at h1;cases h1
    | some r =>
     rw [hp] at h1
     cases h1
     have h2:(match bqj z.2 q with
      | true=>bW8 q r (zs.map (·.2))
      | false=>false)=true:=h2
     cases hpo:bqj z.2 q with
     | false=>rw [hpo] at h2;cases h2
     | true =>
      rw [hpo] at h2
      obtain ⟨e1,e2,e3⟩:=h
      obtain ⟨f1,f2,f3⟩:=hb
      obtain ⟨c1,c2⟩:=byu e3 f3 hpo
      have hap:blc a b=true:=by
       unfold blc
       rw [e1,e2,f1,f2]
       dsimp only
       rw [hd,c1,c2];rfl
      rw [hap,Bool.or_true]
      exact bh7 ⟨f1,f2,f3⟩ hs hp h2
theorem bH7.snoc {α β:Type} {R:α→β→Prop} {as:List α} {bs:List β} {a:α} {b:β} (h:bH7 R as bs) (hab:R a b):bH7 R (as ++ [a]) (bs ++ [b]):=by
 induction h with
 | nil=>exact .cons hab .nil
 | cons h1 _ ih=>exact .cons h1 ih
theorem bso {ops:List Oper}:∀ {l:List Oper} {ls:List (List LE×List LE)} {qs:List QF} {pre:List bjd} {zs:List (bjd×QF)} {bs:List Nat} {ms:List (List Bool)},bH7 FtR pre zs→bH7 QR ls qs→l.length=ls.length →
  bqh (zs.map (·.1)) (l.map (bor ops)) bs=some ms→bW9 (zs.map (·.2)) qs ms=true→bd7 pre (bXn ops l ls) bs=true
 | [],_,_,_,_,_,_,_,.nil,_,_,_=>rfl
 | [],_,_,_,_,_,_,_,.cons _ _,h,_,_=>by simp at h
 | o :: l,_,_,_,_,_,_,_,.nil,h,_,_=>by simp at h
 | o :: l,_,_,pre,zs,bs,ms,hz,.cons (a:=a) (b:=q) (as:=ls) (bs:=qs) h hs,hl,h1,h2=>by
  cases bs with
  | nil=>cases h1
  | cons bf bs =>
   have h1:(match prs bf (bor ops o) (zs.map (·.1)) 0 with
    | some r=>match bqh (zs.map (·.1) ++ [bor ops o]) (l.map (bor ops)) bs with
     | some rs=>some (r :: rs)
     | none=>none
    | none=>none)=some ms:=h1
   cases hp:prs bf (bor ops o) (zs.map (·.1)) 0 with
   | none=>rw [hp] at h1;cases h1
   | some r =>
    rw [hp] at h1
    dsimp only at h1
    cases hp2:bqh (zs.map (·.1) ++ [bor ops o]) (l.map (bor ops)) bs with
    | none=>rw [hp2] at h1;cases h1
    | some rs =>
     rw [hp2] at h1
     cases h1
     have h2:(match bW8 q r (zs.map (·.2)) with
      | true=>bW9 (zs.map (·.2) ++ [q]) qs rs
      | false=>false)=true:=h2
     cases hd:bW8 q r (zs.map (·.2)) with
     | false=>rw [hd] at h2;cases h2
     | true =>
      rw [hd] at h2
      have hb:FtR (bi9 ops o a) (bor ops o,q):=⟨rfl,rfl,h⟩
      show (match bdr bf (bi9 ops o a) pre 0 with
       | true=>bd7 (pre ++ [bi9 ops o a]) (bXn ops l ls) bs
       | false=>false)=true
      rw [bh7 hb hz hp hd]
      refine bso (hz.snoc hb) hs (by simpa using hl) ?_ ?_ (ms:=rs)
      ·rw [List.map_append];exact hp2
      ·rw [List.map_append];exact h2
theorem bod {B:Nat} {e:LE}:∀ {a b:List LE},e∈a→B≤e.k∨e∈mrg B a b
 | x :: a,b,h=>by
  show B≤e.k∨e∈bf5 B x.k x (mrg B a b)
  unfold bf5
  cases hb:Nat.ble B x.k with
  | true =>
   rcases List.mem_cons.mp h with rfl | h
   ·exact .inl (bbm hb)
   ·exact bod h
  | false =>
   rcases List.mem_cons.mp h with rfl | h
   ·exact .inr List.mem_cons_self
   ·rcases bod (b:=b) h with h1 | h1
    ·exact .inl h1
    ·exact .inr (List.mem_cons_of_mem _ h1)
theorem bkb {B:Nat} {e:LE}:∀ {a b:List LE},e∈b→e∈mrg B a b
 | [],b,h=>h
 | x :: a,b,h=>by
  show e∈bf5 B x.k x (mrg B a b)
  unfold bf5
  cases Nat.ble B x.k with
  | true=>exact bkb h
  | false=>exact List.mem_cons_of_mem _ (bkb h)
theorem CL.mrg {B C:Nat} {l q l' q':List LE} (h:CL B l q) (h':CL C l' q') (hBC:B≤C):CL B (l' ++ l) (V.mrg B q' q):=fun e he=>by
 rcases List.mem_append.mp he with he | he
 ·rcases h' e he with h1 | h1
  ·exact .inl (by omega)
  ·exact bod h1
 ·rcases h e he with h1 | h1
  ·exact .inl h1
  ·exact .inr (bkb h1)
theorem bRz {l l':List LE} {c:Nat} (h:∀ e∈l,e.k < c) (h':∀ e∈l',e.k < c):∀ e∈l' ++ l,e.k < c:=fun e he=>by
 rcases List.mem_append.mp he with he | he
 ·exact h' e he
 ·exact h e he
section
variable {m m':Tr AB} {n n':Nat} {l w l' w':List LE} {fm fm':FM} {nx nx' base base':Nat} {lg wl lg' wl':List LE}
theorem _root_.Go.CE.RS.fresh (hs:RS B ⟨m,n,l,w⟩ ⟨fm,nx,base,lg,wl⟩):RS (2 * n) ⟨m,n,[],[]⟩ ⟨fm,nx,dbl nx,[],[]⟩:=by
 have:n=nx:=hs.nx
 subst this
 exact ⟨rfl,rfl,Nat.le_refl _,(fun e h=>by cases h),(fun e h=>by cases h),hs.m,(fun e h=>by cases h),(fun e h=>by cases h),hs.mb⟩
theorem _root_.Go.CE.RS.back (hs:RS B ⟨m,n,l,w⟩ ⟨fm,nx,base,lg,wl⟩) (h:RS (2 * n) ⟨m',n',l',w'⟩ ⟨fm',nx',base',lg',wl'⟩) (hn:n≤n') {m2:Tr AB} (hm:∀ k,m2.get k=m'.get k):RS B ⟨m2,n',l' ++ l,w' ++ w⟩ ⟨fm',nx',base,mrg base lg' lg,mrg base wl' wl⟩:=by
 have hb:base=B:=hs.base
 subst hb
 have low:base≤2 * n:=hs.low
 have up:∀ j,j < 2 * n→j < 2 * n':=fun j h=>by omega
 refine ⟨h.nx,rfl,by dsimp only;omega,CL.mrg hs.lg h.lg low,CL.mrg hs.wl h.wl low,fun k=>?_,bRz (fun e he=>up _ (hs.bd e he)) h.bd,bRz (fun e he=>up _ (hs.bw e he)) h.bw,fun k x hk=>h.mb k x ?_⟩
 ·dsimp only;rw [hm k];exact h.m k
 ·dsimp only at hk;rw [hm k] at hk;exact hk
end
theorem bUp {P:Program} (hs:RS B s f) {a:Fr} {fr:FF} (hf:RF a fr) {c:Cx} {call yl:Nat→List AV→X AV} (hP:c.P=P) (hc:bbr c.call call) (hy:bbr c.yl yl) (lc:∀ k a,Loc (call k a)) (ly:∀ k a,Loc (yl k a)) (o:Oper) :
  Ok B (fun (x:Fr×List LE×List LE) (y:FF×QF)=>RF x.1 y.1∧QR x.2 y.2) (fun k=>bYv o c fr f fun q fr f=>k (fr,q) f) (bIh (bch P call yl c.ops a o) s):=fun k r hk=>by
 obtain ⟨m,n,l,w⟩:=s
 obtain ⟨fm,nx,base,lg,wl⟩:=f
 have hn:n=nx:=hs.nx
 subst hn
 change c0i o c fr ⟨fm,n,dbl n,[],[]⟩ (sndK base n lg wl fun q fr f=>k (fr,q) f)=some r at hk
 obtain ⟨fr',f1,a',s1,e,h1,h2,h3⟩:=bDd hs.fresh hf hP hc hy o _ r hk
 obtain ⟨m1,n1,l1,w1⟩:=s1
 obtain ⟨fm1,nx1,cam,lg1,wl1⟩:=f1
 have hle:=(Loc.bch lc ly c.ops a o).mono e
 change k (fr',⟨lg1,wl1,dbl n,dbl nx1⟩) ⟨fm1,nx1,base,mrg base lg1 lg,mrg base wl1 wl⟩=some r at h3
 refine ⟨_,_,(a',l1,w1),⟨m1,n1,l1++l,w1++w⟩,?_,⟨h1,?_,?_⟩,hs.back h2 hle (fun _=>rfl),h3⟩
 ·unfold bIh;dsimp only;rw [e]
 ·intro x hx
  have hb:=h2.bd x hx
  have hnx:n1=nx1:=h2.nx
  rcases h2.lg x hx with h4 | h4
  ·exact .inl ⟨h4,by rw [← hnx];exact hb⟩
  ·exact .inr h4
 ·intro x hx
  have hb:=h2.bw x hx
  have hnx:n1=nx1:=h2.nx
  rcases h2.wl x hx with h4 | h4
  ·exact .inl ⟨h4,by rw [← hnx];exact hb⟩
  ·exact .inr h4
theorem bDc {P:Program} {c:Cx} {call yl:Nat→List AV→X AV} (hP:c.P=P) (hc:bbr c.call call) (hy:bbr c.yl yl) (lc:∀ k a,Loc (call k a)) (ly:∀ k a,Loc (yl k a)):∀ (l:List Oper) (B:Nat) (s:St) (f:QW) (a:Fr) (fr:FF),RS B s f→RF a fr →
  Ok B (fun (x:Fr×List (List LE×List LE)) (y:FF×List QF)=>RF x.1 y.1∧bH7 QR x.2 y.2∧l.length=x.2.length) (fun k=>bLa l c fr f fun qs fr f=>k (fr,qs) f) (bia P call yl c.ops l a s)
 | [],B,s,f,a,fr,hs,hf=>Ok.ret (b:=(fr,([]:List QF))) (a:=(a,([]:List (List LE×List LE)))) ⟨hf,.nil,rfl⟩ hs
 | o :: l,B,s,f,a,fr,hs,hf=>by
  refine Ok.bnd (g:=fun y f k=>bLa l c y.1 f fun qs fr f=>k (fr,y.2 :: qs) f) (bUp hs hf hP hc hy lc ly o) fun y f x s h hs=>?_
  refine Ok.bnd (g:=fun z f k=>k (z.1,y.2 :: z.2) f) (bDc hP hc hy lc ly l B s f x.1 y.1 hs h.1) fun z f u s h2 hs=>?_
  exact Ok.ret (b:=(z.1,y.2 :: z.2)) ⟨h2.1,.cons h.2 h2.2.1,by simpa using h2.2.2⟩ hs
theorem c0o {P:Program} {c:Cx} {call yl:Nat→List AV→X AV} (hP:c.P=P) (hc:bbr c.call call) (hy:bbr c.yl yl) (lc:∀ k a,Loc (call k a)) (ly:∀ k a,Loc (yl k a)) (draw:Bool) {a:Fr} {fr:FF} (hs:RS B s f) (hf:RF a fr) :
  Ok B RF (c5c draw c fr f) (bsb P call yl c.ops draw a s):=by
 cases draw with
 | false=>exact bPu hP hc hy c.ops B s f a fr hs hf
 | true =>
  show Ok B RF (fun k=>V.opt (bSw c.P c.ops) fun ms=>bLa c.ops c fr f fun qs fr f=>V.iff (bW9 [] qs ms) (k fr f)) _
  refine Ok.opt fun ms hms=>?_
  unfold bsb
  refine Ok.bnd (g:=fun z f k=>V.iff (bW9 [] z.2 ms) (k z.1 f)) (bDc hP hc hy lc ly c.ops B s f a fr hs hf) fun z f x s h hs=>?_
  refine Ok.iff fun hd=>?_
  subst hP
  unfold bSw at hms
  cases hst:(c.P.follows .mixedOrders&&bhq c.ops 0) with
  | false=>rw [hst] at hms;cases hms
  | true =>
   rw [hst] at hms
   refine Ok.chk ?_ (Ok.ret h.1 hs)
   rw [Bool.true_and]
   exact bso (pre:=[]) (zs:=[]) .nil h.2.1 h.2.2 hms hd
end V
end Go.CE
namespace Go.CE
namespace V
variable [Sym] [avd]
variable {B:Nat} {s:St} {f:QW} {P:Program}
def ER (x:Ex×Fr) (y:Ex×FF):Prop:=x.1=y.1∧RF x.2 y.2
def bH2 (ih:IH) (ec:Option Nat→Code→Fr→X (Ex×Fr)):Prop:=∀ (B:Nat) (s:St) (f:QW) (rnd:Option Nat) (c:Code) (a:Fr) (fr:FF),RS B s f→RF a fr→Ok B ER (fun k=>ih rnd c fr f fun e fr f=>k (e,fr) f) (ec rnd c a s)
def bA4 (sm:SMF) (smA:Nat→Option (List AV→X AV)):Prop:=∀ k,(sm k=none∧smA k=none)∨∃ h hA,sm k=some h∧smA k=some hA∧∀ (B:Nat) (s:St) (f:QW) (a:List AV) (l:List FV),RS B s f→RVs a l→Ok B RV (h l f) (hA a s)
theorem bwg:∀ (l:List Nat) {B:Nat} {s:St} {f:QW},RS B s f→OkS B (bBw l f) (shutAll l s)
 | [],_,s,f,hs=>fun _ _ hk=>⟨f,s,rfl,hs,hk⟩
 | i :: l,B,s,f,hs=>fun k r hk=>by
  change bId i f (fun f=>bBw l f k)=some r at hk
  obtain ⟨f1,s1,e1,h1,h2⟩:=bUo hs i _ r hk
  obtain ⟨f2,s2,e2,h3,h4⟩:=bwg l h1 k r h2
  refine ⟨f2,s2,?_,h3,h4⟩
  show CE.bnd (bjr i) (fun _=>shutAll l) s=_
  unfold CE.bnd
  rw [e1];exact e2
theorem bD9 {a:Fr} {fr:FF} (hf:RF a fr):∀ (rs:List ResultVar) {B:Nat} {s:St} {f:QW},RS B s f→Ok B RVs (bTi P fr rs f) (blp P a rs s)
 | [],B,s,f,hs=>Ok.ret RVs.nil hs
 | .tmp t :: rs,B,s,f,hs=>Ok.bnd (x:=bTi P fr rs f) (g:=fun vs f k=>k (oT t fr :: vs) f) (bD9 hf rs hs) fun vs f as s h hs=>Ok.ret (RVs.cons (aAc hf (.tmp t)) h) hs
 | .cell x t :: rs,B,s,f,hs=>by
  have h1:Ok B RV (bz7 P t (oT x fr) f) ((match aYb P t with
   | some ty=>bep ty (a.at x)
   | none=>fail) s):=bDh hs t (aAc hf (.tmp x))
  have h2:Ok B RVs (fun k=>bz7 P t (oT x fr) f fun v f=>bTi P fr rs f fun vs f=>k (v :: vs) f) (CE.bnd (match aYb P t with
   | some ty=>bep ty (a.at x)
   | none=>fail) (fun v=>CE.bnd (blp P a rs) fun r=>CE.ret (v :: r)) s) :=
   Ok.bnd (g:=fun v f k=>bTi P fr rs f fun vs f=>k (v :: vs) f) h1 fun v f y s hv hs=>Ok.bnd (x:=bTi P fr rs f) (g:=fun vs f k=>k (v :: vs) f) (bD9 hf rs hs) fun vs f as s h hs=>Ok.ret (RVs.cons hv h) hs
  refine Ok.eq h2 ?_
  show _=(match aYb P t with
   | some ty=>CE.bnd (bep ty (a.at x)) fun v=>CE.bnd (blp P a rs) fun r=>CE.ret (v :: r)
   | none=>fail) s
  cases aYb P t<;>rfl
theorem bUz {v:FV} (h:c27 v=true) (ho:okV v):okG v:=by
 cases v<;>first | exact ho | cases h
theorem bsr:∀ {l:List FV},bWn l=true→∀ v∈l,c27 v=true
 | x :: l,h,v,hv=>by
  have h:(Bool.rec (motive:=fun _=>Bool) false (bWn l) (c27 x))=true:=h
  cases hx:c27 x with
  | false=>rw [hx] at h;cases h
  | true =>
   rw [hx] at h
   rcases List.mem_cons.mp hv with rfl | hv
   ·exact hx
   ·exact bsr h v hv
theorem bUq (hs:RS B s f) {as:List AV} {vs:List FV} (h:RVs as vs):Ok B RV (c5i vs f) (CE.ret (oneOf as) s):=by
 obtain ⟨rfl,ho⟩:=h
 have tup:Ok B RV (tupC vs f) (CE.ret (AV.t (vs.map b8x)) s):=by
  refine Ok.iff fun hn=>?_
  have hg:∀ v∈vs,okG v:=fun v hv=>bUz (bsr hn v hv) (ho v hv)
  have:=bB9 vs hg
  refine Ok.ret ⟨?_,this.2⟩ hs
  rw [this.1]
  congr 1
  exact List.map_congr_left fun v hv=>(bsw (hg v hv)).1
 match vs,ho,tup with
 | [],_,tup=>exact tup
 | [v],ho,_=>exact Ok.ret ⟨rfl,ho v (by simp)⟩ hs
 | _ :: _ :: _,_,tup=>exact tup
noncomputable def c9z (P:Program) (rs:List ResultVar):Ex×Fr→X AV:=fun (e,fr)=>match e with
 | .exit _=>fail
 | _=>CE.bnd (shutAll fr.mks) fun _=>CE.bnd (blp P fr rs) fun vs=>CE.ret (oneOf vs)
theorem bwj (hs:RS B s f) {a:Fr} {fr:FF} (hf:RF a fr) (rs:List ResultVar):Ok B RV (bEa P rs fr f) (CE.bnd (shutAll a.mks) (fun _=>CE.bnd (blp P a rs) fun vs=>CE.ret (oneOf vs)) s):=by
 have hm:a.mks=bRr fr:=by rw [hf.mks];obtain ⟨t,nt,mks⟩:=fr;rfl
 rw [hm]
 refine OkS.bnd (g:=fun f k=>bTi P fr rs f fun vs f=>c5i vs f k) (bwg _ hs) fun f s hs=>?_
 exact Ok.bnd (g:=fun vs f k=>c5i vs f k) (bD9 hf rs hs) fun vs f as s h hs=>bUq hs h
theorem c0y (hs:RS B s f) {x:Ex×Fr} {y:Ex×FF} (h:ER x y) (rs:List ResultVar):Ok B RV (fun k=>bTg P rs k y.1 y.2 f) (c9z P rs x s):=by
 obtain ⟨e,a⟩:=x
 obtain ⟨e',fr⟩:=y
 obtain ⟨h1,h2⟩:=h
 cases (h1:e=e')
 cases e with
 | normal=>exact bwj hs h2 rs
 | exit j=>exact Ok.none
 | ret=>exact bwj hs h2 rs
theorem brd (k:Nat):∀ nt:Nat,aRb (p4 k) (bWj nt)=.e
 | 0=>bi7 _
 | nt+1=>by
  show aRb (p4 k) (bg8 (p4 nt) .e (bWj nt))=_
  rw [azk,brd k nt]
  split<;>rfl
theorem bF0:∀ (l:List FV) (o j:Nat) (t:FV),aRb (p4 j) (mkO l o t)=if o≤j∧j < o+l.length then (l[j - o]?).getD .e else aRb (p4 j) t
 | [],o,j,t=>by show aRb (p4 j) t=_;rw [if_neg (fun h=>by have:=h.2;simp at this;omega)]
 | v :: l,o,j,t=>by
  show aRb (p4 j) (bg8 (p4 o) v (mkO l (o+1) t))=_
  rw [azk,bF0 l (o+1) j t]
  by_cases h:j=o
  ·subst h;rw [if_pos rfl,if_pos (by simp)];simp
  ·rw [if_neg h]
   by_cases h1:o+1≤j∧j < o+1+l.length
   ·rw [if_pos h1,if_pos (by simp;omega),show j - o=(j - (o+1))+1 by omega]
    rfl
   ·rw [if_neg h1,if_neg (by simp;omega)]
theorem bTf {a:List AV} {l:List FV} (h:RVs a l) (nt:Nat):RF ⟨bLs a 0,nt,[]⟩ ⟨bGo nt l,nt,[]⟩:=by
 obtain ⟨rfl,ho⟩:=h
 refine ⟨rfl,rfl,fun k=>?_⟩
 show (match (bLs (l.map b8x) 0).get k with | some v=>v | none=>AV.u)=b8x (aRb (p4 k) (bGo nt l))∧okV (aRb (p4 k) (bGo nt l))
 unfold bGo
 rw [bwv,bF0,brd]
 simp only [Nat.zero_add]
 by_cases hk:k < l.length
 ·rw [if_pos ⟨Nat.zero_le _,by simpa using hk⟩,if_pos ⟨Nat.zero_le _,hk⟩]
  simp only [Nat.sub_zero,List.getElem?_map,List.getElem?_eq_getElem hk,Option.map_some,Option.getD_some]
  exact ⟨trivial,ho _ (List.getElem_mem hk)⟩
 ·rw [if_neg (by rw [List.length_map];omega),if_neg (by omega)]
  exact ⟨rfl,trivial⟩
theorem bE8:∀ l:List FV,bRj l=l.length
 | []=>rfl
 | x :: l=>by show Nat.succ (bRj l)=_;rw [bE8 l];rfl
theorem c0r {x:QW→KV→Ans} {y:X AV} (ly:Loc y) (hx:∀ (s:St) (f:QW),RS (2 * s.nx) s f→Ok (2 * s.nx) RV (x f) (y s)) (hs:RS B s f):Ok B RV (fun k=>QW.rec (motive:=fun _=>Ans) (fun m nx base lg wl=>x ⟨m,nx,dbl nx,[],[]⟩ (bkS base lg wl k)) f) (y s):=fun k r hk=>by
 obtain ⟨m,n,l,w⟩:=s
 obtain ⟨fm,nx,base,lg,wl⟩:=f
 have hn:n=nx:=hs.nx
 subst hn
 obtain ⟨v,f1,a,s1,e,h1,h2,h3⟩:=hx ⟨m,n,[],[]⟩ ⟨fm,n,dbl n,[],[]⟩ hs.fresh _ r hk
 obtain ⟨m1,n1,l1,w1⟩:=s1
 obtain ⟨fm1,nx1,cam,lg1,wl1⟩:=f1
 obtain ⟨hle,lgA,wlA,e1,e2,hsub,k1,again⟩:=ly _ _ _ _ _ _ _ _ _ e
 rw [List.append_nil] at e1 e2
 subst e1;subst e2
 obtain ⟨m2,e3,ag,k2⟩:=again m l w fun e _=>⟨sameShape.refl _,fun _ _=>rfl⟩
 have hm:∀ i,m2.get i=m1.get i:=fun i=>by
  have:=bhv k1 k2 hsub ag (l2:=[whole i]) (fun e _=>⟨sameShape.refl _,fun _ _=>rfl⟩)
  exact (blf (this (whole i) (by simp))).symm
 exact ⟨v,_,a,⟨m2,n1,l1++l,w1++w⟩,e3,h1,hs.back h2 hle hm,h3⟩
theorem bu6 {sm:SMF} {smA:Nat→Option (List AV→X AV)} {ih:IH} {ec:Option Nat→Code→Fr→X (Ex×Fr)} (hsm:bA4 sm smA) (hec:bH2 ih ec) (lec:∀ r c a,Loc (ec r c a)):bbr (bim P sm ih) (bd5 P smA (ec none)):=fun B s f k a l hs h=>by
 unfold bim bd5
 rcases hsm k with ⟨e1,e2⟩ | ⟨q,qA,e1,e2,hq⟩
 ·rw [e1,e2]
  show Ok B RV (fun kk=>V.opt (FT P k) fun z=>bZ3 P ih z l f kk) ((match FT P k with
   | some (c,nt,rs)=>CE.bnd (CE.chk (Nat.ble a.length nt)) fun _=>CE.bnd (ec none c ⟨bLs a 0,nt,[]⟩) (c9z P rs)
   | none=>fail) s)
  refine Ok.opt fun z hz=>?_
  obtain ⟨c,nt,rs⟩:=z
  rw [hz]
  dsimp only
  have hl:bRj l=a.length:=by rw [bE8,h.1,List.length_map]
  show Ok B RV (fun kk=>V.iff (Nat.ble (bRj l) nt) (QW.rec (motive:=fun _=>Ans) (fun m nx base lg wl=>ih none c ⟨bGo nt l,nt,[]⟩ ⟨m,nx,dbl nx,[],[]⟩ (bTg P rs (bkS base lg wl kk))) f)) _
  rw [hl]
  refine Ok.iff fun hc=>Ok.chk hc ?_
  refine c0r (x:=fun f k=>ih none c ⟨bGo nt l,nt,[]⟩ f (bTg P rs k)) (y:=CE.bnd (ec none c ⟨bLs a 0,nt,[]⟩) (c9z P rs)) (Loc.bnd (lec _ _ _) fun x=>?_) (fun s f hs=>?_) hs
  ·obtain ⟨e,fr⟩:=x
   cases e with
   | exit j=>exact Loc.fail
   | normal=>exact Loc.bnd (Loc.shutAll _) fun _=>Loc.bnd (Loc.blp _ _ _) fun _=>Loc.ret _
   | ret=>exact Loc.bnd (Loc.shutAll _) fun _=>Loc.bnd (Loc.blp _ _ _) fun _=>Loc.ret _
  ·exact Ok.bnd (g:=fun y f k=>bTg P rs k y.1 y.2 f) (hec _ s f none c _ _ hs (bTf h nt)) fun y f x s hx hs=>c0y hs hx rs
 ·rw [e1,e2]
  exact hq B s f a l hs h
theorem bDi:∀ (ps:List Nat) {as:List AV} {vs:List FV} {B:Nat} {s:St} {f:QW} {a:Fr} {fr:FF},RS B s f→RF a fr→RVs as vs→Ok B RF (bza ps vs fr f) (layAll ps as a s)
 | [],as,vs,B,s,f,a,fr,hs,hf,h=>by
  obtain ⟨rfl,ho⟩:=h
  cases vs with
  | nil=>exact Ok.ret hf hs
  | cons v vs=>exact Ok.none
 | p :: ps,as,vs,B,s,f,a,fr,hs,hf,h=>by
  obtain ⟨rfl,ho⟩:=h
  cases vs with
  | nil=>exact Ok.none
  | cons v vs =>
   exact Ok.bnd (x:=bA9 (some p) fr v f) (g:=fun fr f k=>bza ps vs fr f k) (bDj hs hf (some p) ⟨rfl,ho v (by simp)⟩) fun fr f a s hf hs=>bDi ps hs hf ⟨rfl,fun w hw=>ho w (by simp [hw])⟩
theorem bLe {ih:IH} {ec:Option Nat→Code→Fr→X (Ex×Fr)} (hec:bH2 ih ec):bbr (bZ7 ih) (bed fun l=>ec (some l)):=fun B s f l as vs hs h=>by
 unfold bZ7 bed
 refine Ok.bnd (x:=fun k=>rlC l f fun fr ps x y st s=>k (fr,ps,x,y,st) s) (g:=fun z f k=>bza z.2.1 vs z.1 f fun fr f=>ih (some l) z.2.2.1 fr f fun e fr f=>match e with
  | .normal=>rlC l f fun _ _ _ _ st f=>match st with
   | .ready=>wlC l .busy f fun f=>ih (some l) z.2.2.2.1 fr f (bTe l k)
   | _=>none
  | _=>none) (bwi hs l) fun z f x s hx hs=>?_
 obtain ⟨a,ps,asg,body,st⟩:=x
 obtain ⟨fr,q⟩:=z
 obtain ⟨h1,h2⟩:=hx
 dsimp only at h2
 subst h2
 dsimp only
 refine Ok.bnd (x:=bza ps vs fr f) (g:=fun fr f k=>ih (some l) asg fr f fun e fr f=>match e with
  | .normal=>rlC l f fun _ _ _ _ st f=>match st with
   | .ready=>wlC l .busy f fun f=>ih (some l) body fr f (bTe l k)
   | _=>none
  | _=>none) (bDi ps hs h1 h) fun fr f a s hf hs=>?_
 refine Ok.bnd (g:=fun y f k=>match y.1 with
  | .normal=>rlC l f fun _ _ _ _ st f=>match st with
   | .ready=>wlC l .busy f fun f=>ih (some l) body y.2 f (bTe l k)
   | _=>none
  | _=>none) (hec B s f (some l) asg a fr hs hf) fun y f x s hx hs=>?_
 obtain ⟨e,a⟩:=x
 obtain ⟨e',fr⟩:=y
 obtain ⟨h1,hf⟩:=hx
 cases (h1:e=e')
 cases e with
 | normal =>
  dsimp only
  refine Ok.bnd (x:=fun k=>rlC l f fun fr ps x y st s=>k (fr,ps,x,y,st) s) (g:=fun z f k=>match z.2.2.2.2 with
   | .ready=>wlC l .busy f fun f=>ih (some l) body fr f (bTe l k)
   | _=>none) (bwi hs l) fun z f x s hx hs=>?_
  obtain ⟨_,_,_,_,st⟩:=x
  obtain ⟨_,q⟩:=z
  obtain ⟨_,h2⟩:=hx
  dsimp only at h2
  subst h2
  dsimp only
  cases st with
  | ready =>
   dsimp only
   refine OkS.bnd (g:=fun f k=>ih (some l) body fr f (bTe l k)) (bmh hs l .busy) fun f s hs=>?_
   refine Ok.bnd (g:=fun y f k=>bTe l k y.1 y.2 f) (hec B s f (some l) body a fr hs hf) fun y f x s hx hs=>?_
   obtain ⟨e,a⟩:=x
   obtain ⟨e',fr⟩:=y
   obtain ⟨h1,hf⟩:=hx
   cases (h1:e=e')
   cases e with
   | normal=>exact OkS.bnd (g:=fun f k=>k (FV.b true) f) (bmh hs l .ready) fun f s hs=>Ok.ret (bYz _) hs
   | exit j=>exact OkS.bnd (g:=fun f k=>k (FV.b false) f) (bmh hs l (.done (.exit j))) fun f s hs=>Ok.ret (bYz _) hs
   | ret=>exact OkS.bnd (g:=fun f k=>k (FV.b false) f) (bmh hs l (.done .ret)) fun f s hs=>Ok.ret (bYz _) hs
  | _=>exact Ok.none
 | _=>exact Ok.none
theorem rf_0 {a:Fr} {fr:FF} (h:RF a fr):RF ⟨a.t,a.nt,[]⟩ (bXm fr):=by
 obtain ⟨t,nt,m⟩:=fr
 exact ⟨h.nt,rfl,h.slot⟩
theorem rf_d {a:Fr} {fr:FF} (h:RF a fr) (d:Nat):RF ⟨a.t,a.nt,d :: a.mks⟩ (c3h d fr):=by
 obtain ⟨t,nt,m⟩:=fr
 exact ⟨h.nt,congrArg (d :: ·) h.mks,h.slot⟩
theorem bu4 (hs:RS B s f) (g:Bool) {x:AB} {y:FB} (h:RB (some x) y) {α β:Type} {R:α→β→Prop} {q:Nat→QW→(β→QW→Ans)→Ans} {z:Nat→X α} (hq:∀ i f s,RS B s f→Ok B R (q i f) (z i s)):Ok B R (fun k=>bem g y f fun _ i f=>q i f k) (CE.bnd (ba9 g x) z s):=fun k r hk=>by
 obtain ⟨i,f',s',e,h1,h2⟩:=bDf hs g h _ r hk
 obtain ⟨b,f2,a,s2,e2,h3,h4,h5⟩:=hq i f' s' h1 k r h2
 refine ⟨b,f2,a,s2,?_,h3,h4,h5⟩
 unfold CE.bnd
 rw [e];exact e2
theorem c0x (hs:RS B s f) {a:Fr} {fr:FF} (hf:RF a fr) (rnd:Option Nat) (ps:List Nat) (asg body:Code):Ok B (fun (x:Nat×Fr) (y:Nat×FF)=>x.1=y.1∧RF x.2 y.2) (fun k=>c5z rnd fr ps asg body f fun i fr f=>k (i,fr) f) (bdw rnd a ps asg body s):=by
 cases rnd with
 | some l =>
  refine Ok.bnd (x:=fun k=>rlC l f fun fr ps x y st s=>k (fr,ps,x,y,st) s) (g:=fun z f k=>bem false (.loop (bXm fr) ps asg body .ready) f fun _ i f=>k (i,fr) f) (bwi hs l) fun z f x s _ hs=>?_
  exact bu4 hs false (.loop _ _ ps asg body .ready (rf_0 hf)) (q:=fun i f k=>k (i,fr) f) fun i f s hs=>Ok.ret ⟨rfl,hf⟩ hs
 | none =>
  show Ok B _ (fun k=>bem false .dfr f fun _ d f=>bem false (.loop (bXm fr) ps asg body .ready) f fun _ i f=>k (i,c3h d fr) f) (CE.bnd (ba9 false .dfr) (fun d=>CE.bnd (ba9 false (.loop ⟨a.t,a.nt,[]⟩ ps asg body .ready)) fun k=>CE.ret (k,Fr.mk a.t a.nt (d :: a.mks))) s)
  refine bu4 hs false .dfr (q:=fun d f k=>bem false (.loop (bXm fr) ps asg body .ready) f fun _ i f=>k (i,c3h d fr) f) fun d f s hs=>?_
  exact bu4 hs false (.loop _ _ ps asg body .ready (rf_0 hf)) (q:=fun i f k=>k (i,c3h d fr) f) fun i f s hs=>Ok.ret ⟨rfl,rf_d hf d⟩ hs
theorem c0u (hs:RS B s f) (i:Nat):Ok B (fun (x y:Ex)=>x=y) (bXj i f) (bdt i s):=by
 refine Ok.bnd (x:=fun k=>rlC i f fun fr ps x y st s=>k (fr,ps,x,y,st) s) (g:=fun z f k=>match z.2.2.2.2 with
  | .ready=>wlC i .exhausted f fun f=>k .normal f
  | .done e=>wlC i .exhausted f fun f=>k e f
  | _=>none) (bwi hs i) fun z f x s hx hs=>?_
 obtain ⟨_,_,_,_,st⟩:=x
 obtain ⟨_,q⟩:=z
 obtain ⟨_,h2⟩:=hx
 dsimp only at h2
 subst h2
 dsimp only
 cases st with
 | ready=>exact OkS.bnd (g:=fun f k=>k Ex.normal f) (bmh hs i .exhausted) fun f s hs=>Ok.ret rfl hs
 | done e=>exact OkS.bnd (g:=fun f k=>k e f) (bmh hs i .exhausted) fun f s hs=>Ok.ret rfl hs
 | _=>exact Ok.none
theorem bu5 {sm:SMF} {smA:Nat→Option (List AV→X AV)} (hsm:bA4 sm smA) (lsm:∀ k h,smA k=some h→∀ a,Loc (h a)):∀ q:Nat,bH2 (baw P sm q) (b4x P smA q)
 | 0=>fun _ _ _ _ _ _ _ _ _=>Ok.none
 | q+1=>fun B s f rnd c a fr hs hf=>by
  have ih:=bu5 hsm lsm q
  have lec:=Loc.b4x (P:=P) lsm q
  have hcall:=bu6 (P:=P) hsm ih lec
  have c90:∀ k x,Loc (bd5 P smA (b4x P smA q none) k x):=fun k x=>Loc.bd5 lsm (lec none) k x
  cases c with
  | skip=>exact Ok.ret (b:=(Ex.normal,fr)) ⟨rfl,hf⟩ hs
  | label l=>exact Ok.ret (b:=(Ex.normal,fr)) ⟨rfl,hf⟩ hs
  | ret=>exact Ok.ret (b:=(Ex.ret,fr)) ⟨rfl,hf⟩ hs
  | exit j=>exact Ok.ret (b:=(Ex.exit j,fr)) ⟨rfl,hf⟩ hs
  | seq x y =>
   refine Ok.bnd (x:=fun k=>baw P sm q rnd x fr f fun e fr f=>k (e,fr) f) (g:=fun z f k=>bX7 y (baw P sm q) rnd (fun e fr f=>k (e,fr) f) z.1 z.2 f) (ih B s f rnd x a fr hs hf) fun z f u s hu hs=>?_
   obtain ⟨e,a⟩:=u
   obtain ⟨e',fr⟩:=z
   obtain ⟨h1,hf⟩:=hu
   cases (h1:e=e')
   cases e with
   | normal=>exact ih B s f rnd y a fr hs hf
   | exit j=>exact Ok.ret (b:=(Ex.exit j,fr)) ⟨rfl,hf⟩ hs
   | ret=>exact Ok.ret (b:=(Ex.ret,fr)) ⟨rfl,hf⟩ hs
  | cond x y z =>
   obtain ⟨e,ov⟩:=aAc hf x
   show Ok B ER (fun k=>bVe x y z P sm (baw P sm q) rnd fr f fun e fr f=>k (e,fr) f) ((match aBu a x with
    | .b true=>b4x P smA q rnd y a
    | .b false=>b4x P smA q rnd z a
    | _=>fail) s)
   rw [e]
   unfold bVe
   generalize oV x fr=v at ov
   cases v with
   | b v =>
    cases v with
    | true=>exact ih B s f rnd y a fr hs hf
    | false=>exact ih B s f rnd z a fr hs hf
   | _=>exact Ok.none
  | block j x =>
   refine Ok.bnd (x:=fun k=>baw P sm q rnd x fr f fun e fr f=>k (e,fr) f) (g:=fun z f k=>cai j (fun e fr f=>k (e,fr) f) z.1 z.2 f) (ih B s f rnd x a fr hs hf) fun z f u s hu hs=>?_
   obtain ⟨e,a⟩:=u
   obtain ⟨e',fr⟩:=z
   obtain ⟨h1,hf⟩:=hu
   cases (h1:e=e')
   cases e with
   | normal=>exact Ok.ret (b:=(Ex.normal,fr)) ⟨rfl,hf⟩ hs
   | exit i =>
    show Ok B ER (fun k=>Bool.rec (motive:=fun _=>Ans) (k (.exit i,fr) f) (k (.normal,fr) f) (Nat.beq i j)) ((match Nat.beq i j with
     | true=>CE.ret (Ex.normal,a)
     | false=>CE.ret (Ex.exit i,a)) s)
    cases Nat.beq i j with
    | true=>exact Ok.ret (b:=(Ex.normal,fr)) ⟨rfl,hf⟩ hs
    | false=>exact Ok.ret (b:=(Ex.exit i,fr)) ⟨rfl,hf⟩ hs
   | ret=>exact Ok.ret (b:=(Ex.ret,fr)) ⟨rfl,hf⟩ hs
  | loop x =>
   refine Ok.bnd (x:=fun k=>baw P sm q rnd x fr f fun e fr f=>k (e,fr) f) (g:=fun z f k=>bX7 (.loop x) (baw P sm q) rnd (fun e fr f=>k (e,fr) f) z.1 z.2 f) (ih B s f rnd x a fr hs hf) fun z f u s hu hs=>?_
   obtain ⟨e,a⟩:=u
   obtain ⟨e',fr⟩:=z
   obtain ⟨h1,hf⟩:=hu
   cases (h1:e=e')
   cases e with
   | normal=>exact ih B s f rnd (.loop x) a fr hs hf
   | exit j=>exact Ok.ret (b:=(Ex.exit j,fr)) ⟨rfl,hf⟩ hs
   | ret=>exact Ok.ret (b:=(Ex.ret,fr)) ⟨rfl,hf⟩ hs
  | region id ops draw =>
   have h:=c0o (c:=⟨P,bim P sm (baw P sm q),bZ7 (baw P sm q),ops.toList⟩) rfl hcall (bLe ih) c90 (fun k x=>Loc.bed (fun l=>lec (some l)) k x) draw hs hf
   exact Ok.bnd (g:=fun fr f k=>k (Ex.normal,fr) f) h fun fr f a s hf hs=>Ok.ret (b:=(Ex.normal,fr)) ⟨rfl,hf⟩ hs
  | rangeFunc g ps asg body =>
   obtain ⟨e,ov⟩:=aAc hf g
   show Ok B ER (fun k=>bEm g ps asg body P sm (baw P sm q) rnd fr f fun e fr f=>k (e,fr) f) ((match aBu a g with
    | .f fn x cp=>CE.bnd (bdw rnd a ps.toList asg body) fun (k,fr) =>
     CE.bnd (bd5 P smA (b4x P smA q none) fn (x ++ [AV.y k]++cp)) fun _=>CE.bnd (bdt k) fun e=>CE.ret (e,fr)
    | _=>fail) s)
   rw [e]
   unfold bEm
   generalize oV g fr=v at ov
   cases v with
   | o v =>
    cases v with
    | f fn x cp =>
     show Ok B ER (fun k=>c5z rnd fr ps.toList asg body f fun i fr f=>bim P sm (baw P sm q) fn (bua x (.o (.y i) :: bua cp [])) f fun _ f=>bXj i f fun e f=>k (e,fr) f) (CE.bnd (bdw rnd a ps.toList asg body) (fun (z:Nat×Fr) =>
      CE.bnd (bd5 P smA (b4x P smA q none) fn (x ++ [AV.y z.1]++cp)) fun _=>CE.bnd (bdt z.1) fun e=>CE.ret (e,z.2)) s)
     refine Ok.bnd (x:=fun k=>c5z rnd fr ps.toList asg body f fun i fr f=>k (i,fr) f) (g:=fun z f k=>bim P sm (baw P sm q) fn (bua x (.o (.y z.1) :: bua cp [])) f fun _ f=>bXj z.1 f fun e f=>k (e,z.2) f) (c0x hs hf rnd ps.toList asg body) fun z f u s hu hs=>?_
     obtain ⟨i,a⟩:=u
     obtain ⟨i',fr⟩:=z
     obtain ⟨h1,hf⟩:=hu
     cases (h1:i=i')
     have hargs:RVs (x ++ [AV.y i]++cp) (bua x (.o (.y i) :: bua cp [])):=by
      rw [List.append_assoc]
      refine bgi (RVs.cons (v:=.o (.y i)) ⟨rfl,rfl⟩ ?_) x
      have:=bgi RVs.nil cp
      rwa [List.append_nil] at this
     refine Ok.bnd (x:=bim P sm (baw P sm q) fn (bua x (.o (.y i) :: bua cp [])) f) (g:=fun _ f k=>bXj i f fun e f=>k (e,fr) f) (hcall B s f fn _ _ hs hargs) fun _ f _ s _ hs=>?_
     exact Ok.bnd (x:=bXj i f) (g:=fun e f k=>k (e,fr) f) (c0u hs i) fun e f e' s he hs=>by
      subst he
      exact Ok.ret (b:=(e',fr)) ⟨rfl,hf⟩ hs
    | _=>exact Ok.none
   | _=>exact Ok.none
  | _=>exact Ok.none
theorem bDk {sm:SMF} {smA:Nat→Option (List AV→X AV)} (hsm:bA4 sm smA) (lsm:∀ k h,smA k=some h→∀ a,Loc (h a)) (q k:Nat) {a:List AV} {l:List FV} {v:FV} {f':QW} (hs:RS B s f) (h:RVs a l) (he:evF P sm q k l f=some (v,f')) :
  ∃ x s',ban P smA q k a s=some (x,s')∧RV x v∧RS B s' f':=by
 obtain ⟨b,f1,x,s1,e,h1,h2,h3⟩:=bu6 (P:=P) hsm (bu5 hsm lsm q) (Loc.b4x lsm q) B s f k a l hs h endK _ he
 cases h3
 exact ⟨x,s1,e,h1,h2⟩
end V
end Go.CE
namespace Go.CE
namespace V
variable [Sym]
section
variable {X:Type}
abbrev SK (X:Type):=Ex→X→QW→Ans
abbrev SC (X:Type):=X→QW→SK X→Ans
abbrev SF (X:Type):=Nat→SC X
noncomputable def noS:SC X:=fun _ _ _=>none
noncomputable def bv0 (f:Nat→SC X):SF X:=fun n=>Nat.rec (motive:=fun _=>SC X) noS (fun m _=>f m) n
noncomputable def c7l:SC X:=fun x s κ=>κ .normal x s
noncomputable def ret1:SC X:=fun x s κ=>κ .ret x s
noncomputable def c9w (j:Nat):SC X:=fun x s κ=>κ (.exit j) x s
noncomputable def bgg:SF X:=bv0 fun _=>c7l
noncomputable def bpd:SF X:=bv0 fun _=>ret1
noncomputable def bs9 (j:Nat):SF X:=bv0 fun _=>c9w j
noncomputable def c58 (b:SC X) (κ:SK X):SK X:=fun e x s=>Ex.rec (motive:=fun _=>Ans) (b x s κ) (fun j=>κ (.exit j) x s) (κ .ret x s) e
noncomputable def b8s (A B:SF X):SF X:=bv0 fun m x s κ=>A m x s (c58 (B m) κ)
noncomputable def bh0 (get:X→FV) (A B:SF X):SF X:=bv0 fun m x s κ=>bfh (get x) (A m x s κ) (B m x s κ)
noncomputable def blkE (i:Nat) (κ:SK X):SK X:=fun e x s=>Ex.rec (motive:=fun _=>Ans) (κ .normal x s) (fun j=>Bool.rec (motive:=fun _=>Ans) (κ (.exit j) x s) (κ .normal x s) (Nat.beq j i)) (κ .ret x s) e
noncomputable def bio (i:Nat) (A:SF X):SF X:=bv0 fun m x s κ=>A m x s (blkE i κ)
noncomputable def boh (A:SF X):SF X:=fun n=>Nat.rec (motive:=fun _=>SC X) noS (fun m ih x s κ=>A m x s (c58 ih κ)) n
abbrev RG (X:Type):=CF→CF→X→QW→(X→QW→Ans)→Ans
noncomputable def b9h (P:Program) (sm:SMF) (R:RG X):SF X:=bv0 fun m x s κ=>R (bim P sm (baw P sm m)) (bZ7 (baw P sm m)) x s (κ .normal)
def Sh (P:Program) (sm:SMF) (T:X→FF) (c:Code) (S:SF X):Prop:=∀ n x s k,baw P sm n none c (T x) s k=S n x s fun e x s=>k e (T x) s
variable {P:Program} {sm:SMF} {T:X→FF}
theorem bb5:Sh P sm T .skip bgg:=fun n x s k=>by cases n<;>rfl
theorem bbf:Sh P sm T .ret bpd:=fun n x s k=>by cases n<;>rfl
theorem bfu (j:Nat):Sh P sm T (.exit j) (bs9 j):=fun n x s k=>by cases n<;>rfl
theorem aq0 {a b:Code} {A B:SF X} (ha:Sh P sm T a A) (hb:Sh P sm T b B):Sh P sm T (.seq a b) (b8s A B):=fun n x s k=>by
 cases n with
 | zero=>rfl
 | succ m =>
  show baw P sm m none a (T x) s (bX7 b (baw P sm m) none k)=A m x s (c58 (B m) fun e x s=>k e (T x) s)
  rw [ha m x s]
  refine congrArg (A m x s) (funext fun e=>funext fun x=>funext fun s=>?_)
  cases e with
  | normal=>exact hb m x s k
  | exit j=>rfl
  | ret=>rfl
theorem bb6 {c:Operand} {get:X→FV} (hg:∀ x,oV c (T x)=get x) {a b:Code} {A B:SF X} (ha:Sh P sm T a A) (hb:Sh P sm T b B):Sh P sm T (.cond c a b) (bh0 get A B):=fun n x s k=>by
 cases n with
 | zero=>rfl
 | succ m =>
  show bfh (oV c (T x)) (baw P sm m none a (T x) s k) (baw P sm m none b (T x) s k)=bfh (get x) (A m x s fun e x s=>k e (T x) s) (B m x s fun e x s=>k e (T x) s)
  rw [hg,ha m x s k,hb m x s k]
theorem bcj (i:Nat) {a:Code} {A:SF X} (ha:Sh P sm T a A):Sh P sm T (.block i a) (bio i A):=fun n x s k=>by
 cases n with
 | zero=>rfl
 | succ m =>
  show baw P sm m none a (T x) s (cai i k)=A m x s (blkE i fun e x s=>k e (T x) s)
  rw [ha m x s]
  exact congrArg (A m x s) (funext fun e=>funext fun x=>funext fun s=>by cases e<;>rfl)
theorem bft {a:Code} {A:SF X} (ha:Sh P sm T a A):Sh P sm T (.loop a) (boh A):=fun n=>by
 induction n with
 | zero=>intro x s k;rfl
 | succ m ih =>
  intro x s k
  show baw P sm m none a (T x) s (bX7 (.loop a) (baw P sm m) none k)=A m x s (c58 (boh A m) fun e x s=>k e (T x) s)
  rw [ha m x s]
  refine congrArg (A m x s) (funext fun e=>funext fun x=>funext fun s=>?_)
  cases e with
  | normal=>exact ih x s k
  | exit j=>rfl
  | ret=>rfl
def RgOk (P:Program) (d:Bool) (o:Array Oper) (T:X→FF) (R:RG X):Prop:=∀ call yl x s (k:KF),c5c d ⟨P,call,yl,o.toList⟩ (T x) s k=R call yl x s fun x s=>k (T x) s
abbrev MO (X:Type):=QW→(X→QW→Ans)→Ans
theorem as2 {id:Nat} {ops:Array Oper} {d:Bool} {R:RG X} (h:∀ call yl x s (k:KF),c5c d ⟨P,call,yl,ops.toList⟩ (T x) s k=R call yl x s fun x s=>k (T x) s):Sh P sm T (.region id ops d) (b9h P sm R):=fun n x s k=>by
 cases n with
 | zero=>rfl
 | succ m=>exact h _ _ x s (k .normal)
noncomputable def c5a (P:Program) (T:X→FF) (S:SF X) (rs:List ResultVar) (q:Nat) (x:X) (s:QW) (k:KV):Ans :=
 QW.rec (motive:=fun _=>Ans) (fun m nx base lg wl=>S q x ⟨m,nx,dbl nx,[],[]⟩ fun e x s=>bTg P rs (bkS base lg wl k) e (T x) s) s
theorem bTc {c:Code} {S:SF X} {nt:Nat} {rs:List ResultVar} (h:Sh P sm T c S) (q:Nat) {args:List FV} {x:X} (hx:T x=⟨bGo nt args,nt,[]⟩) (hl:Nat.ble (bRj args) nt=true) (s:QW) (k:KV) :
  bZ3 P (baw P sm q) (c,nt,rs) args s k=c5a P T S rs q x s k:=by
 unfold bZ3 c5a
 dsimp only
 rw [hl]
 show QW.rec (motive:=fun _=>Ans) (fun m nx base lg wl=>baw P sm q none c ⟨bGo nt args,nt,[]⟩ ⟨m,nx,dbl nx,[],[]⟩ (bTg P rs (bkS base lg wl k))) s=_
 rw [← hx]
 simp only [h q x]
end
end V
end Go.CE
namespace Go.CE
namespace V
variable [Sym]
def c7c (j:Nat):Code→Code
 | .seq a b=>match j with
  | 0=>a
  | _=>b
 | .cond _ a b=>match j with
  | 0=>a
  | _=>b
 | .block _ a=>a
 | .loop a=>a
 | c=>c
def pth:List Nat→Code→Code
 | [],c=>c
 | j :: l,c=>pth l (c7c j c)
def b9j:Code→Array Oper
 | .region _ ops _=>ops
 | _=>#[]
def bdx (P:Program) (k:Nat):Code:=match P.funcs[k]? with
 | some f=>match f.body with
  | some c=>c
  | none=>.skip
 | none=>.skip
noncomputable def qz (s:QW):QF:=QW.rec (motive:=fun _=>QF) (fun _ nx _ _ _=>⟨[],[],dbl nx,dbl nx⟩) s
noncomputable def c7p (base nx0:Nat) (lg wl:List LE) (k:QF→FV→QW→Ans) (v:FV) (s:QW):Ans:=QW.rec (motive:=fun _=>Ans) (fun m nx _ lg' wl'=>k ⟨lg',wl',dbl nx0,dbl nx⟩ v ⟨m,nx,base,mrg base lg' lg,mrg base wl' wl⟩) s
noncomputable def bdd (op:QW→KV→Ans) (s:QW) (k:QF→FV→QW→Ans):Ans:=QW.rec (motive:=fun _=>Ans) (fun m nx base lg wl=>op ⟨m,nx,dbl nx,[],[]⟩ (c7p base nx lg wl k)) s
section
noncomputable def bvx {Y:Type} (P:Program) (T:Y→FF) (S:SF Y) (rs:List ResultVar) (q:Nat) (ar:List FV→Option Y):List FV→QW→KV→Ans:=fun l s k=>opt (ar l) fun x=>c5a P T S rs q x s k
end
section
variable [avd] {Y:Type} {P:Program} {sm:SMF} {smA:Nat→Option (List AV→X AV)}
def caw (P:Program) (_:SMF) (smA:Nat→Option (List AV→X AV)) (q k:Nat) (h:List FV→QW→KV→Ans):Prop:=∀ (B:Nat) (s:St) (f:QW) (a:List AV) (l:List FV),RS B s f→RVs a l→Ok B RV (h l f) (ban P smA q k a s)
theorem bM0 (hsm:bA4 sm smA) (lsm:∀ k h,smA k=some h→∀ a,Loc (h a)) {k:Nat} (hk:sm k=none) (hA:smA k=none) {c:Code} {nt:Nat} {rs:List ResultVar} (hft:FT P k=some (c,nt,rs)) {T:Y→FF} {S:SF Y} (hS:Sh P sm T c S)
  {ar:List FV→Option Y} (har:∀ l x,ar l=some x→T x=⟨bGo nt l,nt,[]⟩∧Nat.ble (bRj l) nt=true) (q:Nat):caw P sm smA q k (bvx P T S rs q ar):=fun B s f a l hs h=>by
 refine Ok.opt fun x hx=>?_
 obtain ⟨h1,h2⟩:=har l x hx
 have key:∀ kk,c5a P T S rs q x f kk=bim P sm (baw P sm q) k l f kk:=fun kk=>by
  unfold bim
  rw [hk]
  show _=V.opt (FT P k) (fun z=>bZ3 P (baw P sm q) z l f kk)
  rw [hft]
  exact (bTc hS q h1 h2 f kk).symm
 intro kk r hr
 rw [key kk] at hr
 exact bu6 hsm (bu5 hsm lsm q) (Loc.b4x lsm q) B s f k a l hs h kk r hr
end
end V
end Go.CE
namespace Go.CE
namespace V
variable [Sym]
abbrev LQ:=List FV→QW→KV→Ans
abbrev LA:=List AV→X AV
inductive LT where
 | e
 | n (k:Nat) (h:LQ) (a:LA) (l r:LT)
noncomputable def LT.fq (t:LT) (k:Nat):Option LQ:=LT.rec (motive:=fun _=>Option LQ) none (fun j h _ _ _ il ir=>Bool.rec (motive:=fun _=>Option LQ) (Bool.rec (motive:=fun _=>Option LQ) ir il (Nat.ble k j)) (some h) (Nat.beq k j)) t
noncomputable def LT.fa (t:LT) (k:Nat):Option LA:=LT.rec (motive:=fun _=>Option LA) none (fun j _ a _ _ il ir=>Bool.rec (motive:=fun _=>Option LA) (Bool.rec (motive:=fun _=>Option LA) ir il (Nat.ble k j)) (some a) (Nat.beq k j)) t
structure Good [avd] (P:Program) (k:Nat) (h:LQ) (a:LA):Prop where
 loc:∀ x,Loc (a x)
 sound:∀ (B:Nat) (σ:Sg) (m:Tr AB) (n:Nat) (l w:List LE) (W:World) (args:List AV) (v:AV) (m':Tr AB) (n':Nat) (l' w':List LE) (vals:Array Value),
  GS σ→SR P B σ m W→LR σ args vals→a args ⟨m,n,l,w⟩=some (v,⟨m',n',l',w'⟩)→b9l σ n n'→(callFunc k vals).run P W=.ok (.enter k vals) W∧Calls P k vals W (Done P B σ n n' m' v W)
 ok:∀ (B:Nat) (s:St) (f:QW) (x:List AV) (l:List FV),RS B s f→RVs x l→Ok B RV (h l f) (a x s)
def LT.all (p:Nat→LQ→LA→Prop):LT→Prop
 | .e=>True
 | .n k h a l r=>p k h a∧l.all p∧r.all p
section
variable [avd] {P:Program}
theorem LT.find (p:Nat→LQ→LA→Prop) (k:Nat):∀ t:LT,t.all p→(t.fq k=none∧t.fa k=none)∨∃ h a,t.fq k=some h∧t.fa k=some a∧p k h a
 | .e,_=>.inl ⟨rfl,rfl⟩
 | .n j h a l r,ht=>by
  show ((Bool.rec (motive:=fun _=>Option LQ) (Bool.rec (motive:=fun _=>Option LQ) (r.fq k) (l.fq k) (Nat.ble k j)) (some h) (Nat.beq k j))=none∧(Bool.rec (motive:=fun _=>Option LA) (Bool.rec (motive:=fun _=>Option LA) (r.fa k) (l.fa k) (Nat.ble k j)) (some a) (Nat.beq k j))=none)∨∃ h' a',(Bool.rec (motive:=fun _=>Option LQ) (Bool.rec (motive:=fun _=>Option LQ) (r.fq k) (l.fq k) (Nat.ble k j)) (some h) (Nat.beq k j))=some h'∧(Bool.rec (motive:=fun _=>Option LA) (Bool.rec (motive:=fun _=>Option LA) (r.fa k) (l.fa k) (Nat.ble k j)) (some a) (Nat.beq k j))=some a'∧p k h' a'
  cases hb:Nat.beq k j with
  | true=>have:=be1 hb;subst this;exact .inr ⟨h,a,rfl,rfl,ht.1⟩
  | false =>
   cases Nat.ble k j with
   | true=>exact LT.find p k l ht.2.1
   | false=>exact LT.find p k r ht.2.2
theorem LT.bSu {t:LT} (h:t.all (Good P)):bA4 t.fq t.fa:=fun k=>by
 rcases LT.find _ k t h with h1 | ⟨q,a,h1,h2,g⟩
 ·exact .inl h1
 ·exact .inr ⟨q,a,h1,h2,g.ok⟩
theorem LT.bYk {t:LT} (h:t.all (Good P)):c4c P t.fa:=by
 refine ⟨fun k a ha=>?_,fun k a ha=>?_⟩
 ·rcases LT.find _ k t h with h1 | ⟨q,a',h1,h2,g⟩
  ·rw [h1.2] at ha;cases ha
  ·rw [h2] at ha;cases ha;exact g.loc
 ·rcases LT.find _ k t h with h1 | ⟨q,a',h1,h2,g⟩
  ·rw [h1.2] at ha;cases ha
  ·rw [h2] at ha;cases ha;exact g.sound
theorem b9e {t:LT} (ht:t.all (Good P)) {k:Nat} (hk:t.fq k=none) {c:Code} {nt:Nat} {rs:List ResultVar} (hft:FT P k=some (c,nt,rs)) {Y:Type} {T:Y→FF} {S:SF Y} (hS:Sh P t.fq T c S)
  {ar:List FV→Option Y} (har:∀ l x,ar l=some x→T x=⟨bGo nt l,nt,[]⟩∧Nat.ble (bRj l) nt=true) (q:Nat):Good P k (bvx P T S rs q ar) (ban P t.fa q k):=by
 have hA:t.fa k=none:=by
  rcases LT.find _ k t ht with h1 | ⟨_,_,h1,_⟩
  ·exact h1.2
  ·rw [h1] at hk;cases hk
 have sS:=LT.bYk ht
 refine ⟨fun x=>Loc.ban sS.1 q k x,fun B σ m n l w W args v m' n' l' w' vals h1 h2 h3 h4 h5=>bcl sS q B σ m n l w W k args v m' n' l' w' vals h1 h2 h3 h4 h5,?_⟩
 exact bM0 (LT.bSu ht) sS.1 hk hA hft hS har q
end
end V
end Go.CE
