/-
  The quick evaluator: values, trees, memory. The kernel reduces these in few steps.
-/
import Derived.Test.YtopgdlblfieljaaGreatDoorPkCeOne
import Derived.Test.YtopgdlblfieljaaGreatDoorPkCeTwo
set_option linter.unusedSectionVars false
set_option linter.constructorNameAsVariable false
set_option linter.unusedVariables false
set_option linter.unusedSimpArgs false
namespace Go.CE
inductive P4 where
 | e
 | a (p:P4)
 | b (p:P4)
 | c (p:P4)
 | d (p:P4)
inductive FV where
 | i (k:IntKind) (n:Nat)
 | b (v:Bool)
 | p (q:P4) (k o:Nat)
 | s (q:P4) (k o n c:Nat)
 | o (v:AV)
 | w (v:AV)
 | g (t:FV) (n:Nat)
 | t (t:FV) (n:Nat)
 | e
 | n (x a b c d:FV)
noncomputable def p4s (ih:Nat→P4) (p:Nat):P4 :=
 Nat.rec (motive:=fun _=>P4) (.a (ih (Nat.div p 4))) (fun m _=>Nat.rec (motive:=fun _=>P4) (.b (ih (Nat.div p 4))) (fun m _=>Nat.rec (motive:=fun _=>P4) (.c (ih (Nat.div p 4))) (fun _ _=>.d (ih (Nat.div p 4))) m) m) (Nat.mod p 4)
noncomputable def p4f (q k:Nat):P4 :=
 Nat.rec (motive:=fun _=>Nat→P4) (fun _=>.e) (fun _ ih k=>Nat.rec (motive:=fun _=>P4) .e (fun p _=>p4s ih p) k) q k
noncomputable def p4 (k:Nat):P4:=p4f k k
noncomputable def ga (t:FV) (ih:FV→FV):FV:=FV.rec (motive:=fun _=>(FV→FV)→FV) (fun _ _=>fun ih=>ih .e) (fun _=>fun ih=>ih .e) (fun _ _ _=>fun ih=>ih .e) (fun _ _ _ _ _=>fun ih=>ih .e) (fun _=>fun ih=>ih .e) (fun _=>fun ih=>ih .e) (fun _ _ _=>fun ih=>ih .e) (fun _ _ _=>fun ih=>ih .e) (fun ih=>ih .e) (fun x a b c d _ _ _ _ _=>(fun x a b c d ih=>ih a) x a b c d) t ih
noncomputable def gb (t:FV) (ih:FV→FV):FV:=FV.rec (motive:=fun _=>(FV→FV)→FV) (fun _ _=>fun ih=>ih .e) (fun _=>fun ih=>ih .e) (fun _ _ _=>fun ih=>ih .e) (fun _ _ _ _ _=>fun ih=>ih .e) (fun _=>fun ih=>ih .e) (fun _=>fun ih=>ih .e) (fun _ _ _=>fun ih=>ih .e) (fun _ _ _=>fun ih=>ih .e) (fun ih=>ih .e) (fun x a b c d _ _ _ _ _=>(fun x a b c d ih=>ih b) x a b c d) t ih
noncomputable def gc (t:FV) (ih:FV→FV):FV:=FV.rec (motive:=fun _=>(FV→FV)→FV) (fun _ _=>fun ih=>ih .e) (fun _=>fun ih=>ih .e) (fun _ _ _=>fun ih=>ih .e) (fun _ _ _ _ _=>fun ih=>ih .e) (fun _=>fun ih=>ih .e) (fun _=>fun ih=>ih .e) (fun _ _ _=>fun ih=>ih .e) (fun _ _ _=>fun ih=>ih .e) (fun ih=>ih .e) (fun x a b c d _ _ _ _ _=>(fun x a b c d ih=>ih c) x a b c d) t ih
noncomputable def gd (t:FV) (ih:FV→FV):FV:=FV.rec (motive:=fun _=>(FV→FV)→FV) (fun _ _=>fun ih=>ih .e) (fun _=>fun ih=>ih .e) (fun _ _ _=>fun ih=>ih .e) (fun _ _ _ _ _=>fun ih=>ih .e) (fun _=>fun ih=>ih .e) (fun _=>fun ih=>ih .e) (fun _ _ _=>fun ih=>ih .e) (fun _ _ _=>fun ih=>ih .e) (fun ih=>ih .e) (fun x a b c d _ _ _ _ _=>(fun x a b c d ih=>ih d) x a b c d) t ih
noncomputable def b41 (t:FV):FV:=FV.rec (motive:=fun _=>FV) (fun _ _=>.e) (fun _=>.e) (fun _ _ _=>.e) (fun _ _ _ _ _=>.e) (fun _=>.e) (fun _=>.e) (fun _ _ _=>.e) (fun _ _ _=>.e) (.e) (fun x a b c d _ _ _ _ _=>(fun x a b c d=>x) x a b c d) t
noncomputable def a1d (p:P4) (t:FV):FV:=P4.rec (motive:=fun _=>FV→FV) b41 (fun _ ih t=>ga t ih) (fun _ ih t=>gb t ih) (fun _ ih t=>gc t ih) (fun _ ih t=>gd t ih) p t
noncomputable def sa (t:FV) (ih:FV→FV→FV) (v:FV):FV:=FV.rec (motive:=fun _=>(FV→FV→FV)→FV→FV) (fun _ _=>fun ih v=>.n .e (ih v .e) .e .e .e) (fun v=>fun ih v=>.n .e (ih v .e) .e .e .e) (fun _ _ _=>fun ih v=>.n .e (ih v .e) .e .e .e) (fun _ _ _ _ _=>fun ih v=>.n .e (ih v .e) .e .e .e) (fun v=>fun ih v=>.n .e (ih v .e) .e .e .e) (fun v=>fun ih v=>.n .e (ih v .e) .e .e .e) (fun _ _ _=>fun ih v=>.n .e (ih v .e) .e .e .e) (fun _ _ _=>fun ih v=>.n .e (ih v .e) .e .e .e) (fun ih v=>.n .e (ih v .e) .e .e .e) (fun x a b c d _ _ _ _ _=>(fun x a b c d ih v=>.n x (ih v a) b c d) x a b c d) t ih v
noncomputable def sb (t:FV) (ih:FV→FV→FV) (v:FV):FV:=FV.rec (motive:=fun _=>(FV→FV→FV)→FV→FV) (fun _ _=>fun ih v=>.n .e .e (ih v .e) .e .e) (fun v=>fun ih v=>.n .e .e (ih v .e) .e .e) (fun _ _ _=>fun ih v=>.n .e .e (ih v .e) .e .e) (fun _ _ _ _ _=>fun ih v=>.n .e .e (ih v .e) .e .e) (fun v=>fun ih v=>.n .e .e (ih v .e) .e .e) (fun v=>fun ih v=>.n .e .e (ih v .e) .e .e) (fun _ _ _=>fun ih v=>.n .e .e (ih v .e) .e .e) (fun _ _ _=>fun ih v=>.n .e .e (ih v .e) .e .e) (fun ih v=>.n .e .e (ih v .e) .e .e) (fun x a b c d _ _ _ _ _=>(fun x a b c d ih v=>.n x a (ih v b) c d) x a b c d) t ih v
noncomputable def sc4 (t:FV) (ih:FV→FV→FV) (v:FV):FV:=FV.rec (motive:=fun _=>(FV→FV→FV)→FV→FV) (fun _ _=>fun ih v=>.n .e .e .e (ih v .e) .e) (fun v=>fun ih v=>.n .e .e .e (ih v .e) .e) (fun _ _ _=>fun ih v=>.n .e .e .e (ih v .e) .e) (fun _ _ _ _ _=>fun ih v=>.n .e .e .e (ih v .e) .e) (fun v=>fun ih v=>.n .e .e .e (ih v .e) .e) (fun v=>fun ih v=>.n .e .e .e (ih v .e) .e) (fun _ _ _=>fun ih v=>.n .e .e .e (ih v .e) .e) (fun _ _ _=>fun ih v=>.n .e .e .e (ih v .e) .e) (fun ih v=>.n .e .e .e (ih v .e) .e) (fun x a b c d _ _ _ _ _=>(fun x a b c d ih v=>.n x a b (ih v c) d) x a b c d) t ih v
noncomputable def sd (t:FV) (ih:FV→FV→FV) (v:FV):FV:=FV.rec (motive:=fun _=>(FV→FV→FV)→FV→FV) (fun _ _=>fun ih v=>.n .e .e .e .e (ih v .e)) (fun v=>fun ih v=>.n .e .e .e .e (ih v .e)) (fun _ _ _=>fun ih v=>.n .e .e .e .e (ih v .e)) (fun _ _ _ _ _=>fun ih v=>.n .e .e .e .e (ih v .e)) (fun v=>fun ih v=>.n .e .e .e .e (ih v .e)) (fun v=>fun ih v=>.n .e .e .e .e (ih v .e)) (fun _ _ _=>fun ih v=>.n .e .e .e .e (ih v .e)) (fun _ _ _=>fun ih v=>.n .e .e .e .e (ih v .e)) (fun ih v=>.n .e .e .e .e (ih v .e)) (fun x a b c d _ _ _ _ _=>(fun x a b c d ih v=>.n x a b c (ih v d)) x a b c d) t ih v
noncomputable def b1k (v t:FV):FV:=FV.rec (motive:=fun _=>FV→FV) (fun _ _=>fun v=>.n v .e .e .e .e) (fun v=>fun v=>.n v .e .e .e .e) (fun _ _ _=>fun v=>.n v .e .e .e .e) (fun _ _ _ _ _=>fun v=>.n v .e .e .e .e) (fun v=>fun v=>.n v .e .e .e .e) (fun v=>fun v=>.n v .e .e .e .e) (fun _ _ _=>fun v=>.n v .e .e .e .e) (fun _ _ _=>fun v=>.n v .e .e .e .e) (fun v=>.n v .e .e .e .e) (fun x a b c d _ _ _ _ _=>(fun x a b c d v=>.n v a b c d) x a b c d) t v
noncomputable def ab8 (p:P4) (v t:FV):FV:=P4.rec (motive:=fun _=>FV→FV→FV) b1k (fun _ ih v t=>sa t ih v) (fun _ ih v t=>sb t ih v) (fun _ ih v t=>sc4 t ih v) (fun _ ih v t=>sd t ih v) p v t
structure FF where
 t:FV
 nt:Nat
 mks:List Nat
inductive FB where
 | no
 | cells (t:FV) (n T:Nat)
 | map (es:List (AV×AV×Nat)) (clock:Nat)
 | loop (fr:FF) (ps:List Nat) (asg body:Code) (st:LS)
 | dfr
inductive FM where
 | e
 | n (x:FB) (a b c d:FM)
structure QW where
 m:FM
 nx:Nat
 base:Nat
 lg:List LE
 wl:List LE
noncomputable def mga (t:FM) (ih:FM→FB):FB:=FM.rec (motive:=fun _=>(FM→FB)→FB) (fun ih=>ih .e) (fun _ a b c d _ _ _ _ ih=>ih a) t ih
noncomputable def msa (t:FM) (ih:FB→FM→FM) (v:FB):FM:=FM.rec (motive:=fun _=>(FB→FM→FM)→FB→FM) (fun ih v=>.n .no (ih v .e) .e .e .e) (fun x a b c d _ _ _ _ ih v=>.n x (ih v a) b c d) t ih v
noncomputable def mgb (t:FM) (ih:FM→FB):FB:=FM.rec (motive:=fun _=>(FM→FB)→FB) (fun ih=>ih .e) (fun _ a b c d _ _ _ _ ih=>ih b) t ih
noncomputable def msb (t:FM) (ih:FB→FM→FM) (v:FB):FM:=FM.rec (motive:=fun _=>(FB→FM→FM)→FB→FM) (fun ih v=>.n .no .e (ih v .e) .e .e) (fun x a b c d _ _ _ _ ih v=>.n x a (ih v b) c d) t ih v
noncomputable def mgc (t:FM) (ih:FM→FB):FB:=FM.rec (motive:=fun _=>(FM→FB)→FB) (fun ih=>ih .e) (fun _ a b c d _ _ _ _ ih=>ih c) t ih
noncomputable def msc (t:FM) (ih:FB→FM→FM) (v:FB):FM:=FM.rec (motive:=fun _=>(FB→FM→FM)→FB→FM) (fun ih v=>.n .no .e .e (ih v .e) .e) (fun x a b c d _ _ _ _ ih v=>.n x a b (ih v c) d) t ih v
noncomputable def mgd (t:FM) (ih:FM→FB):FB:=FM.rec (motive:=fun _=>(FM→FB)→FB) (fun ih=>ih .e) (fun _ a b c d _ _ _ _ ih=>ih d) t ih
noncomputable def msd (t:FM) (ih:FB→FM→FM) (v:FB):FM:=FM.rec (motive:=fun _=>(FB→FM→FM)→FB→FM) (fun ih v=>.n .no .e .e .e (ih v .e)) (fun x a b c d _ _ _ _ ih v=>.n x a b c (ih v d)) t ih v
noncomputable def aW8 (t:FM):FB:=FM.rec (motive:=fun _=>FB) .no (fun x _ _ _ _ _ _ _ _=>x) t
noncomputable def aW6 (v:FB) (t:FM):FM:=FM.rec (motive:=fun _=>FB→FM) (fun v=>.n v .e .e .e .e) (fun _ a b c d _ _ _ _ v=>.n v a b c d) t v
noncomputable def getM (p:P4) (t:FM):FB:=P4.rec (motive:=fun _=>FM→FB) aW8 (fun _ ih t=>mga t ih) (fun _ ih t=>mgb t ih) (fun _ ih t=>mgc t ih) (fun _ ih t=>mgd t ih) p t
noncomputable def adx (p:P4) (v:FB) (t:FM):FM:=P4.rec (motive:=fun _=>FB→FM→FM) aW6 (fun _ ih v t=>msa t ih v) (fun _ ih v t=>msb t ih v) (fun _ ih v t=>msc t ih v) (fun _ ih v t=>msd t ih v) p v t
end Go.CE
namespace Go.CE
theorem adf (p:P4):a1d p .e=.e:=by
 induction p with
 | e=>rfl
 | a p ih=>exact ih
 | b p ih=>exact ih
 | c p ih=>exact ih
 | d p ih=>exact ih
theorem arq (q:P4):∀ (t v:FV),a1d q (ab8 q v t)=v:=by
 induction q with
 | e=>intro t v;cases t<;>rfl
 | a q ih=>intro t v;cases t<;>exact ih _ v
 | b q ih=>intro t v;cases t<;>exact ih _ v
 | c q ih=>intro t v;cases t<;>exact ih _ v
 | d q ih=>intro t v;cases t<;>exact ih _ v
theorem afs (q:P4):∀ (p:P4) (t v:FV),p≠q→a1d p (ab8 q v t)=a1d p t:=by
 induction q with
 | e=>intro p t v h;cases p<;>first | exact absurd rfl h | (cases t<;>first | rfl | exact adf _)
 | a q ih=>intro p t v h;cases p with
  | a p=>cases t<;>first | exact ih p _ v (fun e=>h (e ▸ rfl)) | exact (ih p _ v (fun e=>h (e ▸ rfl))).trans (adf _)
  | _=>cases t<;>rfl
 | b q ih=>intro p t v h;cases p with
  | b p=>cases t<;>first | exact ih p _ v (fun e=>h (e ▸ rfl)) | exact (ih p _ v (fun e=>h (e ▸ rfl))).trans (adf _)
  | _=>cases t<;>rfl
 | c q ih=>intro p t v h;cases p with
  | c p=>cases t<;>first | exact ih p _ v (fun e=>h (e ▸ rfl)) | exact (ih p _ v (fun e=>h (e ▸ rfl))).trans (adf _)
  | _=>cases t<;>rfl
 | d q ih=>intro p t v h;cases p with
  | d p=>cases t<;>first | exact ih p _ v (fun e=>h (e ▸ rfl)) | exact (ih p _ v (fun e=>h (e ▸ rfl))).trans (adf _)
  | _=>cases t<;>rfl
theorem adg (p:P4):getM p .e=.no:=by
 induction p with
 | e=>rfl
 | a p ih=>exact ih
 | b p ih=>exact ih
 | c p ih=>exact ih
 | d p ih=>exact ih
theorem ars (q:P4):∀ (t:FM) (v:FB),getM q (adx q v t)=v:=by
 induction q with
 | e=>intro t v;cases t<;>rfl
 | a q ih=>intro t v;cases t<;>exact ih _ v
 | b q ih=>intro t v;cases t<;>exact ih _ v
 | c q ih=>intro t v;cases t<;>exact ih _ v
 | d q ih=>intro t v;cases t<;>exact ih _ v
theorem afu (q:P4):∀ (p:P4) (t:FM) (v:FB),p≠q→getM p (adx q v t)=getM p t:=by
 induction q with
 | e=>intro p t v h;cases p<;>first | exact absurd rfl h | (cases t<;>first | rfl | exact adg _)
 | a q ih=>intro p t v h;cases p with
  | a p=>cases t<;>first | exact ih p _ v (fun e=>h (e ▸ rfl)) | exact (ih p _ v (fun e=>h (e ▸ rfl))).trans (adg _)
  | _=>cases t<;>rfl
 | b q ih=>intro p t v h;cases p with
  | b p=>cases t<;>first | exact ih p _ v (fun e=>h (e ▸ rfl)) | exact (ih p _ v (fun e=>h (e ▸ rfl))).trans (adg _)
  | _=>cases t<;>rfl
 | c q ih=>intro p t v h;cases p with
  | c p=>cases t<;>first | exact ih p _ v (fun e=>h (e ▸ rfl)) | exact (ih p _ v (fun e=>h (e ▸ rfl))).trans (adg _)
  | _=>cases t<;>rfl
 | d q ih=>intro p t v h;cases p with
  | d p=>cases t<;>first | exact ih p _ v (fun e=>h (e ▸ rfl)) | exact (ih p _ v (fun e=>h (e ▸ rfl))).trans (adg _)
  | _=>cases t<;>rfl
def un:P4→Nat
 | .e=>0
 | .a p=>4 * un p+1
 | .b p=>4 * un p+2
 | .c p=>4 * un p+3
 | .d p=>4 * un p+4
theorem aSo (ih:Nat→P4) (p:Nat) (h:un (ih (p / 4))=p / 4):un (p4s ih p)=p+1:=by
 have e:Nat.div p 4=p / 4:=rfl
 have e':Nat.mod p 4=p % 4:=rfl
 unfold p4s
 rw [e,e']
 have:p % 4 < 4:=Nat.mod_lt _ (by decide)
 match hm:p % 4 with
 | 0=>show 4 * un (ih (p / 4))+1=p+1;omega
 | 1=>show 4 * un (ih (p / 4))+2=p+1;omega
 | 2=>show 4 * un (ih (p / 4))+3=p+1;omega
 | m+3=>show 4 * un (ih (p / 4))+4=p+1;omega
theorem aIh:∀ (q k:Nat),k≤q→un (p4f q k)=k
 | 0,k,h=>by
         have:k=0:=by omega
         subst this;rfl
 | q+1,0,h=>rfl
 | q+1,p+1,h=>aSo (p4f q) p (aIh q (p / 4) (by omega))
theorem aSp (k:Nat):un (p4 k)=k:=aIh k k (Nat.le_refl k)
theorem aFo {j k:Nat} (h:j≠k):p4 j≠p4 k:=fun e=>h (by rw [← aSp j,← aSp k,e])
end Go.CE
namespace Go.CE
def a4l:FV→Prop
 | .i _ _ | .b _=>True
 | .p q k _=>q=p4 k
 | .s q k _ _ _=>q=p4 k
 | .o v=>sc v=true
 | _=>False
def a6g:FV→AV
 | .i k n=>.i k (.ofNat n)
 | .b v=>.b v
 | .p _ k o=>.p (some (k,o))
 | .s _ k o n c=>.sl (some (k,o)) n c
 | .o v=>v
 | _=>.u
noncomputable def a07 (t:FV) (o n:Nat):List AV:=(List.range n).map fun j=>a6g (a1d (p4 (o+j)) t)
noncomputable def aa5:FV→AV
 | .g t n=>.g (a07 t 0 n)
 | .w v=>v
 | v=>a6g v
noncomputable def a2t:FV→AV
 | .t t n=>.t ((List.range n).map fun j=>aa5 (a1d (p4 j) t))
 | v=>aa5 v
def a3j (t:FV) (n:Nat):Prop:=∀ j,j < n→a4l (a1d (p4 j) t)
def okG:FV→Prop
 | .g t n=>a3j t n
 | .w v=>sc v=false
 | .e=>True
 | .t _ _ | .n _ _ _ _ _=>False
 | v=>a4l v
def okV:FV→Prop
 | .t t n=>∀ j,j < n→okG (a1d (p4 j) t)
 | v=>okG v
theorem ao0:∀ {v:FV},a4l v→sc (a6g v)=true
 | .i _ _,_=>rfl
 | .b _,_=>rfl
 | .p _ _ _,_=>rfl
 | .s _ _ _ _ _,_=>rfl
 | .o _,h=>h
noncomputable def mkT (l:List FV) (j:Nat):FV:=List.rec (motive:=fun _=>Nat→FV) (fun _=>.e) (fun v _ ih j=>ab8 (p4 j) v (ih (Nat.succ j))) l j
def ofI (k:IntKind):Int→FV
 | .ofNat n=>.i k n
 | .negSucc n=>.o (.i k (.negSucc n))
noncomputable def of0:AV→FV
 | .b v=>.b v
 | .i k n=>ofI k n
 | .p (some (k,o))=>.p (p4 k) k o
 | .sl (some (k,o)) n c=>.s (p4 k) k o n c
 | v=>.o v
noncomputable def ofG:AV→FV
 | .g cs=>match a1f cs with
  | true=>.g (mkT (cs.map of0) 0) cs.length
  | false=>.w (.g cs)
 | .t vs=>.w (.t vs)
 | .u=>.e
 | .bad=>.w .bad
 | v=>of0 v
noncomputable def ofV:AV→FV
 | .t vs=>.t (mkT (vs.map ofG) 0) vs.length
 | v=>ofG v
structure RF (a:Fr) (f:FF):Prop where
 nt:a.nt=f.nt
 mks:a.mks=f.mks
 slot:∀ k,a.at k=a2t (a1d (p4 k) f.t)∧okV (a1d (p4 k) f.t)
inductive RB:Option AB→FB→Prop where
 | no:RB none .no
 | cells (t:FV) (n T:Nat):a3j t n→RB (some (.cells (a07 t 0 n) T)) (.cells t n T)
 | map (es:List (AV×AV×Nat)) (c:Nat):RB (some (.map es c)) (.map es c)
 | loop (a:Fr) (f:FF) (ps:List Nat) (x y:Code) (st:LS):RF a f→RB (some (.loop a ps x y st)) (.loop f ps x y st)
 | dfr:RB (some .dfr) .dfr
def CL (B:Nat) (l q:List LE):Prop:=∀ e∈l,B≤e.k∨e∈q
structure RS (B:Nat) (s:St) (f:QW):Prop where
 nx:s.nx=f.nx
 base:f.base=B
 low:B≤2 * s.nx
 lg:CL B s.lg f.lg
 wl:CL B s.wl f.wl
 m:∀ k,RB (s.mem.get k) (getM (p4 k) f.m)
 bd:∀ e∈s.lg,e.k < 2 * s.nx
 bw:∀ e∈s.wl,e.k < 2 * s.nx
 mb:∀ k x,s.mem.get k=some x→k < 2 * s.nx
end Go.CE
namespace Go.CE
namespace V
variable [Sym]
abbrev Ans:=Option (FV×QW)
abbrev KV:=FV→QW→Ans
abbrev KF:=FF→QW→Ans
abbrev KE:=Ex→FF→QW→Ans
abbrev CF:=Nat→List FV→QW→KV→Ans
structure Cx where
 P:Program
 call:CF
 yl:CF
 ops:List Oper
noncomputable def oT1 (t:FV) (_:Nat) (_:List Nat) (i:Nat):FV:=a1d (p4 i) t
noncomputable def oT (i:Nat) (fr:FF):FV:=FF.rec (motive:=fun _=>Nat→FV) oT1 fr i
noncomputable def oK (v:Value) (_:FF):FV:=ofV (conv v)
noncomputable def oG1 (i:Nat):FV:=Bool.rec (motive:=fun _=>FV) (.w .bad) (.p (p4 (Nat.mul 2 i)) (Nat.mul 2 i) 0) (Nat.ble (Nat.succ i) 512)
noncomputable def oG (i:Nat) (_:FF):FV:=oG1 i
noncomputable def oFn (f:Nat) (_:FF):FV:=.o (.f f [] [])
noncomputable def oV (x:Operand) (fr:FF):FV:=Operand.rec (motive:=fun _=>FF→FV) oT oK oG oFn x fr
noncomputable def strict (f:Nat→Ans) (n:Nat):Ans:=Nat.rec (motive:=fun _=>Ans) (f 0) (fun i _=>f (Nat.succ i)) n
noncomputable def iff (b:Bool) (x:Ans):Ans:=Bool.rec (motive:=fun _=>Ans) none x b
noncomputable def aS1 (b:Bool):Bool:=Bool.rec (motive:=fun _=>Bool) true false b
noncomputable def opt {α:Type} (o:Option α) (f:α→Ans):Ans:=Option.rec (motive:=fun _=>Ans) none f o
noncomputable def kN (k:IntKind):Nat:=IntKind.rec (motive:=fun _=>Nat) 0 1 2 3 4 5 6 7 k
noncomputable def ikF (j k:IntKind):Bool:=Nat.beq (kN j) (kN k)
noncomputable def wrS (k:IntKind) (n:Nat):FV:=ofI k (IntKind.wrap k (Int.ofNat n))
noncomputable def wr64 (n:Nat):FV:=Bool.rec (motive:=fun _=>FV) (wrS .i64 n) (.i .i64 n) (Nat.ble n 9223372036854775807)
noncomputable def avl (k:IntKind) (n:Nat):FV:=IntKind.rec (motive:=fun _=>Nat→FV) (wrS .i8) (wrS .i16) (wrS .i32) wr64 (fun n=>.i .u8 (Nat.mod n 256)) (fun n=>.i .u16 (Nat.mod n 65536)) (fun n=>.i .u32 (Nat.mod n 4294967296)) (fun n=>.i .u64 (Nat.mod n 18446744073709551616)) k n
abbrev BT:=Nat→BinOp→Program→QW→KV→Ans
noncomputable def ak2 (x y:FV):BT:=fun t op P s k=>opt (avf P op t (a2t x) (a2t y)) fun v=>k (ofV v) s
abbrev IT:=IntKind→Nat→IntKind→Nat→Nat→Program→QW→KV→Ans
noncomputable def bSl (op:BinOp):IT:=fun j a k b t P s kk=>ak2 (.i j a) (.i k b) t op P s kk
noncomputable def bN (f:Nat→Nat→Nat):IT:=fun j a k b _ _ s kk=>iff (ikF j k) (kk (avl j (f a b)) s)
noncomputable def bSub:IT:=fun j a k b t P s kk=>Bool.rec (motive:=fun _=>Ans) (bSl .sub j a k b t P s kk) (bN Nat.sub j a k b t P s kk) (Nat.ble b a)
noncomputable def bQuo:IT:=fun j a k b t P s kk=>Bool.rec (motive:=fun _=>Ans) (bN Nat.div j a k b t P s kk) none (Nat.beq b 0)
noncomputable def bRem:IT:=fun j a k b _ _ s kk=>Bool.rec (motive:=fun _=>Ans) (iff (ikF j k) (kk (.i j (Nat.mod a b)) s)) none (Nat.beq b 0)
noncomputable def mxN (j:IntKind):Nat:=j.max.toNat
noncomputable def aI0 (j:IntKind):Nat:=j.bits
noncomputable def b03 (f:Nat→Nat→Nat):IT:=fun j a k b _ _ s kk=>iff (ikF j k) (iff (Nat.ble a (mxN j)) (iff (Nat.ble b (mxN j)) (kk (.i j (f a b)) s)))
noncomputable def ar9 (a b:Nat):Nat:=Bool.rec (motive:=fun _=>Nat) b a (Nat.ble a b)
noncomputable def bShl:IT:=fun j a _ b _ _ s kk=>kk (avl j (Nat.mul a (Nat.pow 2 (ar9 b (aI0 j))))) s
noncomputable def bShr:IT:=fun j a _ b _ _ s kk=>kk (.i j (Nat.div a (Nat.pow 2 (ar9 b (aI0 j))))) s
noncomputable def bC (f:Nat→Nat→Bool):IT:=fun j a k b _ _ s kk=>iff (ikF j k) (kk (.b (f a b)) s)
noncomputable def b4q (a b:Nat):Bool:=aS1 (Nat.ble b a)
noncomputable def b4r (a b:Nat):Bool:=aS1 (Nat.ble a b)
noncomputable def cGeq (a b:Nat):Bool:=Nat.ble b a
noncomputable def b4p (a b:Nat):Bool:=aS1 (Nat.beq a b)
noncomputable def bI2 (k:IntKind) (b:Nat) (j:IntKind) (a:Nat):BT:=fun t op P s kk =>
 BinOp.rec (motive:=fun _=>IT) (bN Nat.add) bSub (bN Nat.mul) bQuo bRem (b03 Nat.land) (b03 Nat.lor) (b03 Nat.xor) bShl bShr (bSl .andNot) (bC Nat.beq) (bC b4p) (bC b4q) (bC Nat.ble) (bC b4r) (bC cGeq) op j a k b t P s kk
noncomputable def bI1 (j:IntKind) (a:Nat) (y:FV):BT:=fun t op P s kk =>
 FV.rec (motive:=fun _=>IntKind→Nat→BT) bI2 (fun v=>fun jj aa=>ak2 (.i jj aa) (FV.b v)) (fun q k o=>fun jj aa=>ak2 (.i jj aa) (FV.p q k o)) (fun q k o n c=>fun jj aa=>ak2 (.i jj aa) (FV.s q k o n c)) (fun v=>fun jj aa=>ak2 (.i jj aa) (FV.o v)) (fun v=>fun jj aa=>ak2 (.i jj aa) (FV.w v)) (fun t n _=>fun jj aa=>ak2 (.i jj aa) (FV.g t n)) (fun t n _=>fun jj aa=>ak2 (.i jj aa) (FV.t t n)) (fun jj aa=>ak2 (.i jj aa) (FV.e)) (fun x a b c d _ _ _ _ _=>fun jj aa=>ak2 (.i jj aa) (FV.n x a b c d)) y j a t op P s kk
noncomputable def ab5 (x y:FV):BT:=fun t op P s kk=>FV.rec (motive:=fun _=>FV→BT) bI1 (fun v=>fun y=>ak2 (FV.b v) y) (fun q k o=>fun y=>ak2 (FV.p q k o) y) (fun q k o n c=>fun y=>ak2 (FV.s q k o n c) y) (fun v=>fun y=>ak2 (FV.o v) y) (fun v=>fun y=>ak2 (FV.w v) y) (fun t n _=>fun y=>ak2 (FV.g t n) y) (fun t n _=>fun y=>ak2 (FV.t t n) y) (fun y=>ak2 (FV.e) y) (fun x a b c d _ _ _ _ _=>fun y=>ak2 (FV.n x a b c d) y) x y t op P s kk
abbrev OpC:=Cx→FF→QW→KV→Ans
def hi0:Nat:=0
def hi1:Nat:=hi0
def hi2:Nat:=hi1
def hi3:Nat:=hi2
def hi4:Nat:=hi3
def hi5:Nat:=hi4
def hi6:Nat:=hi5
def hi7:Nat:=hi6
def hi8:Nat:=hi7
def hi9:Nat:=hi8
def hi10:Nat:=hi9
def hi11:Nat:=hi10
def hi12:Nat:=hi11
def hi13:Nat:=hi12
def hi14:Nat:=hi13
def hi15:Nat:=hi14
def hi16:Nat:=hi15
def hi17:Nat:=hi16
def hi18:Nat:=hi17
def hi19:Nat:=hi18
def hi20:Nat:=hi19
def hi21:Nat:=hi20
def hi22:Nat:=hi21
def hi23:Nat:=hi22
def hi24:Nat:=hi23
def hi25:Nat:=hi24
def hi26:Nat:=hi25
def hi27:Nat:=hi26
def hi28:Nat:=hi27
def hi29:Nat:=hi28
def hi30:Nat:=hi29
def hi31:Nat:=hi30
def hi32:Nat:=hi31
def hi33:Nat:=hi32
def hi34:Nat:=hi33
def hi35:Nat:=hi34
def hi36:Nat:=hi35
def hi37:Nat:=hi36
def hi38:Nat:=hi37
def hi39:Nat:=hi38
def hi40:Nat:=hi39
def hi41:Nat:=hi40
def hi42:Nat:=hi41
def hi43:Nat:=hi42
def hi44:Nat:=hi43
def hi45:Nat:=hi44
def hi46:Nat:=hi45
def hi47:Nat:=hi46
def hi48:Nat:=hi47
def hi49:Nat:=hi48
def hi50:Nat:=hi49
def hi51:Nat:=hi50
def hi52:Nat:=hi51
def hi53:Nat:=hi52
def hi54:Nat:=hi53
def hi55:Nat:=hi54
def hi56:Nat:=hi55
def hi57:Nat:=hi56
def hi58:Nat:=hi57
def hi59:Nat:=hi58
def b3v:Nat:=hi59
noncomputable def bnk (f:KV→Ans) (k:KV):Ans:=f k
noncomputable def aac (v:FV) (y n:Ans):Ans:=FV.rec (motive:=fun _=>Ans→Ans→Ans) (fun _ _=>fun _ _=>none) (fun v y n=>Bool.rec (motive:=fun _=>Ans) n y v) (fun _ _ _=>fun _ _=>none) (fun _ _ _ _ _=>fun _ _=>none) (fun _=>fun _ _=>none) (fun _=>fun _ _=>none) (fun _ _ _=>fun _ _=>none) (fun _ _ _=>fun _ _=>none) (fun _ _=>none) (fun _ _ _ _ _ _ _ _ _ _=>fun _ _=>none) v y n
noncomputable def aSg (x:Operand):OpC:=fun _ fr s k=>(fun (_:Nat)=>k (oV x fr) s) b3v
noncomputable def aMs (x a b:Operand):OpC:=fun _ fr s k=>bnk (fun k=>aac (oV x fr) (k (oV a fr) s) (k (oV b fr) s)) k
noncomputable def yBin (op:BinOp) (t:Nat) (x y:Operand) (_:Nat):OpC:=fun c fr s k=>ab5 (oV x fr) (oV y fr) t op c.P s k
noncomputable def unS (op:UnOp) (v:FV) (s:QW) (k:KV):Ans:=opt (unA op (a2t v)) fun v=>k (ofV v) s
noncomputable def b38 (v:FV) (s:QW) (k:KV):Ans:=FV.rec (motive:=fun _=>QW→KV→Ans) (fun _ _=>fun _ _=>none) (fun v s k=>k (.b (aS1 v)) s) (fun _ _ _=>fun _ _=>none) (fun _ _ _ _ _=>fun _ _=>none) (fun _=>fun _ _=>none) (fun _=>fun _ _=>none) (fun _ _ _=>fun _ _=>none) (fun _ _ _=>fun _ _=>none) (fun _ _=>none) (fun _ _ _ _ _ _ _ _ _ _=>fun _ _=>none) v s k
noncomputable def yUn (op:UnOp) (_:Nat) (x:Operand):OpC:=fun _ fr s k=>UnOp.rec (motive:=fun _=>FV→QW→KV→Ans) (unS .neg) (unS .xor) b38 (unS .plus) op (oV x fr) s k
noncomputable def a9y (base k:Nat) (e:LE) (l:List LE):List LE:=Bool.rec (motive:=fun _=>List LE) (e :: l) l (Nat.ble base k)
noncomputable def exT (t:FV) (o n:Nat):FV:=Nat.rec (motive:=fun _=>FV) .e (fun j ih=>ab8 (p4 j) (a1d (p4 (Nat.add o j)) t) ih) n
noncomputable def aCo (t:FV) (o n:Nat):FV:=Bool.rec (motive:=fun _=>FV) (exT t o n) t (Nat.beq o 0)
noncomputable def ovT (t v:FV) (o n:Nat):FV:=Nat.rec (motive:=fun _=>FV) t (fun j ih=>ab8 (p4 (Nat.add o j)) (a1d (p4 j) v) ih) n
noncomputable def aOz (t v:FV) (o n N:Nat):FV:=Bool.rec (motive:=fun _=>FV) (ovT t v o n) v (Bool.rec (motive:=fun _=>Bool) false (Nat.beq n N) (Nat.beq o 0))
abbrev RdT:=FM→Nat→Nat→List LE→List LE→P4→Nat→Nat→Nat→KV→Ans
noncomputable def rd1b (t:FV) (n _T:Nat):RdT:=fun m nx base lg wl _ i o _ k=>iff (Nat.ble (Nat.succ o) n) (k (a1d (p4 o) t) ⟨m,nx,base,a9y base i ⟨i,o,1,false⟩ lg,wl⟩)
noncomputable def rdnb (t:FV) (n _T:Nat):RdT:=fun m nx base lg wl _ i o c k=>iff (Nat.ble (Nat.add o c) n) (k (.g (aCo t o c) c) ⟨m,nx,base,a9y base i ⟨i,o,c,false⟩ lg,wl⟩)
noncomputable def b2g (m:FM) (nx base:Nat) (lg wl:List LE) (q:P4) (i o:Nat) (k:KV):Ans:=FB.rec (motive:=fun _=>RdT) (fun _ _ _ _ _ _ _ _ _ _=>none) rd1b (fun _ _ _ _ _ _ _ _ _ _ _ _=>none) (fun _ _ _ _ _ _ _ _ _ _ _ _ _ _ _=>none) (fun _ _ _ _ _ _ _ _ _ _=>none) (getM q m) m nx base lg wl q i o 1 k
noncomputable def b2d (m:FM) (nx base:Nat) (lg wl:List LE) (q:P4) (i o c:Nat) (k:KV):Ans:=FB.rec (motive:=fun _=>RdT) (fun _ _ _ _ _ _ _ _ _ _=>none) rdnb (fun _ _ _ _ _ _ _ _ _ _ _ _=>none) (fun _ _ _ _ _ _ _ _ _ _ _ _ _ _ _=>none) (fun _ _ _ _ _ _ _ _ _ _=>none) (getM q m) m nx base lg wl q i o c k
noncomputable def b2h (q:P4) (i o:Nat) (s:QW) (k:KV):Ans:=QW.rec (motive:=fun _=>P4→Nat→Nat→KV→Ans) b2g s q i o k
noncomputable def aiv (q:P4) (i o c:Nat) (s:QW) (k:KV):Ans:=QW.rec (motive:=fun _=>P4→Nat→Nat→Nat→KV→Ans) b2d s q i o c k
abbrev KS:=QW→Ans
abbrev WrT:=FM→Nat→Nat→List LE→List LE→P4→Nat→Nat→FV→Nat→KS→Ans
noncomputable def wr1b (t:FV) (n T:Nat):WrT:=fun m nx base lg wl q i o v _ k=>iff (Nat.ble (Nat.succ o) n) (k ⟨adx q (.cells (ab8 (p4 o) v t) n T) m,nx,base,a9y base i ⟨i,o,1,false⟩ lg,a9y base i ⟨i,o,1,false⟩ wl⟩)
noncomputable def wrnb (t:FV) (n T:Nat):WrT:=fun m nx base lg wl q i o v c k=>iff (Nat.ble (Nat.add o c) n) (k ⟨adx q (.cells (aOz t v o c n) n T) m,nx,base,a9y base i ⟨i,o,c,false⟩ lg,a9y base i ⟨i,o,c,false⟩ wl⟩)
noncomputable def b0y (m:FM) (nx base:Nat) (lg wl:List LE) (q:P4) (i o:Nat) (v:FV) (k:KS):Ans:=iff (Nat.ble 2048 i) (FB.rec (motive:=fun _=>WrT) (fun _ _ _ _ _ _ _ _ _ _ _=>none) wr1b (fun _ _ _ _ _ _ _ _ _ _ _ _ _=>none) (fun _ _ _ _ _ _ _ _ _ _ _ _ _ _ _ _=>none) (fun _ _ _ _ _ _ _ _ _ _ _=>none) (getM q m) m nx base lg wl q i o v 1 k)
noncomputable def b0w (m:FM) (nx base:Nat) (lg wl:List LE) (q:P4) (i o:Nat) (v:FV) (c:Nat) (k:KS):Ans:=iff (Nat.ble 2048 i) (FB.rec (motive:=fun _=>WrT) (fun _ _ _ _ _ _ _ _ _ _ _=>none) wrnb (fun _ _ _ _ _ _ _ _ _ _ _ _ _=>none) (fun _ _ _ _ _ _ _ _ _ _ _ _ _ _ _ _=>none) (fun _ _ _ _ _ _ _ _ _ _ _=>none) (getM q m) m nx base lg wl q i o v c k)
noncomputable def wr1C (q:P4) (i o:Nat) (v:FV) (s:QW) (k:KS):Ans:=QW.rec (motive:=fun _=>P4→Nat→Nat→FV→KS→Ans) b0y s q i o v k
noncomputable def aMu (q:P4) (i o:Nat) (v:FV) (c:Nat) (s:QW) (k:KS):Ans:=QW.rec (motive:=fun _=>P4→Nat→Nat→FV→Nat→KS→Ans) b0w s q i o v c k
noncomputable def nwb (m:FM) (base:Nat) (lg wl:List LE) (v:FB) (x i:Nat) (k:P4→Nat→QW→Ans):Ans:=k (p4 i) i ⟨adx (p4 i) v m,Nat.succ x,base,lg,wl⟩
noncomputable def nwa (m:FM) (nx base:Nat) (lg wl:List LE) (g:Bool) (v:FB) (k:P4→Nat→QW→Ans):Ans:=strict (fun x=>strict (fun i=>nwb m base lg wl v x i k) (Bool.rec (motive:=fun _=>Nat) (Nat.mul 2 x) (Nat.succ (Nat.mul 2 x)) g)) nx
noncomputable def a9h (g:Bool) (v:FB) (s:QW) (k:P4→Nat→QW→Ans):Ans:=QW.rec (motive:=fun _=>Bool→FB→(P4→Nat→QW→Ans)→Ans) nwa s g v k
noncomputable def kla (m:FM) (nx base:Nat) (lg wl:List LE) (q:P4) (i:Nat) (k:KS):Ans:=match getM q m with
 | .cells _ _ _=>k ⟨adx q .no m,nx,base,a9y base i (whole i) lg,a9y base i (whole i) wl⟩
 | _=>none
noncomputable def aWj (q:P4) (i:Nat) (s:QW) (k:KS):Ans:=QW.rec (motive:=fun _=>P4→Nat→KS→Ans) kla s q i k
noncomputable def rtb (_t:FV) (_n T:Nat):FM→Nat→Nat→List LE→List LE→Nat→(Nat→QW→Ans)→Ans:=fun m nx base lg wl i k=>k T ⟨m,nx,base,a9y base i ⟨i,0,0,false⟩ lg,wl⟩
noncomputable def rta (m:FM) (nx base:Nat) (lg wl:List LE) (q:P4) (i:Nat) (k:Nat→QW→Ans):Ans:=FB.rec (motive:=fun _=>FM→Nat→Nat→List LE→List LE→Nat→(Nat→QW→Ans)→Ans) (fun _ _ _ _ _ _ _=>none) rtb (fun _ _ _ _ _ _ _ _ _=>none) (fun _ _ _ _ _ _ _ _ _ _ _ _=>none) (fun _ _ _ _ _ _ _=>none) (getM q m) m nx base lg wl i k
noncomputable def aRw (q:P4) (i:Nat) (s:QW) (k:Nat→QW→Ans):Ans:=QW.rec (motive:=fun _=>P4→Nat→(Nat→QW→Ans)→Ans) rta s q i k
abbrev ME:=List (AV×AV×Nat)
noncomputable def rmC (i:Nat) (s:QW) (k:ME→Nat→QW→Ans):Ans:=match s with
 | ⟨m,nx,base,lg,wl⟩=>match getM (p4 i) m with
  | .map es c=>k es c ⟨m,nx,base,a9y base i ⟨i,0,0,false⟩ lg,wl⟩
  | _=>none
noncomputable def wmC (i:Nat) (es:ME) (c:Nat) (s:QW) (k:KS):Ans:=match s with
 | ⟨m,nx,base,lg,wl⟩=>match Nat.ble roB i,getM (p4 i) m with
  | true,.map _ _=>k ⟨adx (p4 i) (.map es c) m,nx,base,a9y base i (whole i) lg,a9y base i (whole i) wl⟩
  | _,_=>none
abbrev LR5:=FF→List Nat→Code→Code→LS→QW→Ans
noncomputable def rlC (i:Nat) (s:QW) (k:LR5):Ans:=match s with
 | ⟨m,nx,base,lg,wl⟩=>match getM (p4 i) m with
  | .loop fr ps a b st=>k fr ps a b st ⟨m,nx,base,a9y base i ⟨i,0,0,false⟩ lg,wl⟩
  | _=>none
noncomputable def wlC (i:Nat) (st:LS) (s:QW) (k:KS):Ans:=match s with
 | ⟨m,nx,base,lg,wl⟩=>match Nat.ble roB i,getM (p4 i) m with
  | true,.loop fr ps a b _=>k ⟨adx (p4 i) (.loop fr ps a b st) m,nx,base,a9y base i (whole i) lg,a9y base i (whole i) wl⟩
  | _,_=>none
noncomputable def aCu (i:Nat) (s:QW) (k:KS):Ans:=match s with
 | ⟨m,nx,base,lg,wl⟩=>match Nat.ble roB i,getM (p4 i) m with
  | true,.dfr=>k ⟨adx (p4 i) .no m,nx,base,a9y base i (whole i) lg,a9y base i (whole i) wl⟩
  | _,_=>none
noncomputable def aim (P:Program) (t:Nat):Option (Bool×Nat):=match a1q P t with
 | some ty=>some (agg ty.d,ty.size)
 | none=>none
noncomputable def ldP (b:Bool) (n:Nat) (q:P4) (i o:Nat) (s:QW) (k:KV):Ans:=Bool.rec (motive:=fun _=>Ans) (b2h q i o s k) (aiv q i o n s k) b
noncomputable def ldV (v:FV) (b:Bool) (n:Nat) (s:QW) (k:KV):Ans:=FV.rec (motive:=fun _=>Bool→Nat→QW→KV→Ans) (fun _ _=>fun _ _ _ _=>none) (fun _=>fun _ _ _ _=>none) (fun q i o b n s k=>ldP b n q i o s k) (fun _ _ _ _ _=>fun _ _ _ _=>none) (fun _=>fun _ _ _ _=>none) (fun _=>fun _ _ _ _=>none) (fun _ _ _=>fun _ _ _ _=>none) (fun _ _ _=>fun _ _ _ _=>none) (fun _ _ _ _=>none) (fun _ _ _ _ _ _ _ _ _ _=>fun _ _ _ _=>none) v b n s k
noncomputable def ldT (z:Bool×Nat) (v:FV) (s:QW) (k:KV):Ans:=Prod.rec (motive:=fun _=>FV→QW→KV→Ans) (fun b n v s k=>ldV v b n s k) z v s k
noncomputable def au5 (P:Program) (t:Nat) (v:FV) (s:QW) (k:KV):Ans:=Option.rec (motive:=fun _=>FV→QW→KV→Ans) (fun _ _ _=>none) ldT (aim P t) v s k
noncomputable def b0u (t:Nat) (a:Operand):OpC:=fun c fr s k=>au5 c.P t (oV a fr) s k
noncomputable def st1 (v:FV) (n:Nat) (q:P4) (i o:Nat) (s:QW) (k:KV):Ans:=iff (Nat.beq n 1) (wr1C q i o v s (k .e))
noncomputable def stG (t:FV) (c:Nat) (n:Nat) (q:P4) (i o:Nat) (s:QW) (k:KV):Ans:=iff (Nat.beq c n) (Nat.rec (motive:=fun _=>Ans) (k .e s) (fun _ _=>aMu q i o t c s (k .e)) c)
noncomputable def stV (v:FV) (n:Nat) (q:P4) (i o:Nat) (s:QW) (k:KV):Ans:=FV.rec (motive:=fun _=>Nat→P4→Nat→Nat→QW→KV→Ans) (fun k n=>st1 (.i k n)) (fun v=>st1 (.b v)) (fun q k o=>st1 (.p q k o)) (fun q k o n c=>st1 (.s q k o n c)) (fun v=>st1 (.o v)) (fun _=>fun _ _ _ _ _ _=>none) (fun t n _=>stG t n) (fun _ _ _=>fun _ _ _ _ _ _=>none) (fun _ _ _ _ _ _=>none) (fun _ _ _ _ _ _ _ _ _ _=>fun _ _ _ _ _ _=>none) v n q i o s k
noncomputable def stA (a v:FV) (n:Nat) (s:QW) (k:KV):Ans:=FV.rec (motive:=fun _=>FV→Nat→QW→KV→Ans) (fun _ _=>fun _ _ _ _=>none) (fun _=>fun _ _ _ _=>none) (fun q i o v n s k=>stV v n q i o s k) (fun _ _ _ _ _=>fun _ _ _ _=>none) (fun _=>fun _ _ _ _=>none) (fun _=>fun _ _ _ _=>none) (fun _ _ _=>fun _ _ _ _=>none) (fun _ _ _=>fun _ _ _ _=>none) (fun _ _ _ _=>none) (fun _ _ _ _ _ _ _ _ _ _=>fun _ _ _ _=>none) a v n s k
noncomputable def avh (t:Nat) (a v:Operand):OpC:=fun c fr s k=>Option.rec (motive:=fun _=>Ans) none (fun z=>stA (oV a fr) (oV v fr) z.2 s k) (aim c.P t)
noncomputable def aQk (P:Program) (t j:Nat):Option Nat:=match a1q P t with
 | some ⟨.abb fs,_,_,_⟩=>match placeOf P fs j with
  | some (off,_+1)=>some off
  | _=>none
 | _=>none
noncomputable def abl (v:FV) (off:Nat) (s:QW) (k:KV):Ans:=FV.rec (motive:=fun _=>Nat→QW→KV→Ans) (fun _ _=>fun _ _ _=>none) (fun _=>fun _ _ _=>none) (fun q i o off s k=>k (.p q i (Nat.add o off)) s) (fun _ _ _ _ _=>fun _ _ _=>none) (fun _=>fun _ _ _=>none) (fun _=>fun _ _ _=>none) (fun _ _ _=>fun _ _ _=>none) (fun _ _ _=>fun _ _ _=>none) (fun _ _ _=>none) (fun _ _ _ _ _ _ _ _ _ _=>fun _ _ _=>none) v off s k
noncomputable def asn (t:Nat) (x:Operand) (j:Nat):OpC:=fun c fr s k=>opt (aQk c.P t j) fun off=>abl (oV x fr) off s k
noncomputable def b3m (P:Program) (t:Nat):Option (Option Nat×Nat):=match a1q P t with
 | some ty=>match ty.d with
  | .arr n e=>match a5i P e with
   | some size=>some (some n,size)
   | none=>none
  | .slice e=>match a5i P e with
   | some size=>some (none,size)
   | none=>none
  | _=>none
 | none=>none
noncomputable def iaP (x:FV) (n j size:Nat) (s:QW) (k:KV):Ans:=FV.rec (motive:=fun _=>Nat→Nat→Nat→QW→KV→Ans) (fun _ _=>fun _ _ _ _ _=>none) (fun _=>fun _ _ _ _ _=>none) (fun q i o n j size s k=>iff (Nat.ble (Nat.succ j) n) (k (.p q i (Nat.add o (Nat.mul j size))) s)) (fun _ _ _ _ _=>fun _ _ _ _ _=>none) (fun _=>fun _ _ _ _ _=>none) (fun _=>fun _ _ _ _ _=>none) (fun _ _ _=>fun _ _ _ _ _=>none) (fun _ _ _=>fun _ _ _ _ _=>none) (fun _ _ _ _ _=>none) (fun _ _ _ _ _ _ _ _ _ _=>fun _ _ _ _ _=>none) x n j size s k
noncomputable def iaS (x:FV) (j size:Nat) (s:QW) (k:KV):Ans:=FV.rec (motive:=fun _=>Nat→Nat→QW→KV→Ans) (fun _ _=>fun _ _ _ _=>none) (fun _=>fun _ _ _ _=>none) (fun _ _ _=>fun _ _ _ _=>none) (fun q i o n _ j size s k=>iff (Nat.ble (Nat.succ j) n) (k (.p q i (Nat.add o (Nat.mul j size))) s)) (fun _=>fun _ _ _ _=>none) (fun _=>fun _ _ _ _=>none) (fun _ _ _=>fun _ _ _ _=>none) (fun _ _ _=>fun _ _ _ _=>none) (fun _ _ _ _=>none) (fun _ _ _ _ _ _ _ _ _ _=>fun _ _ _ _=>none) x j size s k
noncomputable def alr (v:FV) (k:Nat→Ans):Ans:=FV.rec (motive:=fun _=>(Nat→Ans)→Ans) (fun _ n k=>k n) (fun _=>fun _=>none) (fun _ _ _=>fun _=>none) (fun _ _ _ _ _=>fun _=>none) (fun _=>fun _=>none) (fun _=>fun _=>none) (fun _ _ _=>fun _=>none) (fun _ _ _=>fun _=>none) (fun _=>none) (fun _ _ _ _ _ _ _ _ _ _=>fun _=>none) v k
noncomputable def iaT (z:Option Nat×Nat) (x:FV) (j:Nat) (s:QW) (k:KV):Ans:=Prod.rec (motive:=fun _=>FV→Nat→QW→KV→Ans) (fun a size x j s k=>Option.rec (motive:=fun _=>Ans) (iaS x j size s k) (fun n=>iaP x n j size s k) a) z x j s k
noncomputable def asl (t:Nat) (x ix:Operand):OpC:=fun c fr s k=>opt (b3m c.P t) fun z=>alr (oV ix fr) fun j=>iaT z (oV x fr) j s k
noncomputable def a0r (l:List AV):FV:=mkT (l.map of0) 0
noncomputable def avg (P:Program) (t:Nat):Option (FV×Nat):=match a1q P t with
 | some ty=>match a1f ty.zero with
  | true=>some (a0r ty.zero,ty.zero.length)
  | false=>none
 | none=>none
noncomputable def an6 (P:Program) (t:Nat) (s:QW) (k:KV):Ans:=opt (avg P t) fun z=>a9h false (.cells z.1 z.2 t) s fun q i s=>k (.p q i 0) s
noncomputable def aIe (t:Nat):OpC:=fun c _ s k=>an6 c.P t s k
noncomputable def bxV (v:FV) (t:Nat) (s:QW) (k:KV):Ans:=FV.rec (motive:=fun _=>Nat→QW→KV→Ans) (fun k n=>fun tt ss kk=>a9h false (.cells (ab8 (p4 0) (FV.i k n) .e) 1 tt) ss fun qq ii ss=>kk (.p qq ii 0) ss) (fun v=>fun tt ss kk=>a9h false (.cells (ab8 (p4 0) (FV.b v) .e) 1 tt) ss fun qq ii ss=>kk (.p qq ii 0) ss) (fun q k o=>fun tt ss kk=>a9h false (.cells (ab8 (p4 0) (FV.p q k o) .e) 1 tt) ss fun qq ii ss=>kk (.p qq ii 0) ss) (fun q k o n c=>fun tt ss kk=>a9h false (.cells (ab8 (p4 0) (FV.s q k o n c) .e) 1 tt) ss fun qq ii ss=>kk (.p qq ii 0) ss) (fun v=>fun tt ss kk=>a9h false (.cells (ab8 (p4 0) (FV.o v) .e) 1 tt) ss fun qq ii ss=>kk (.p qq ii 0) ss) (fun _ _ _ _=>none) (fun t n _=>(fun c n t s k=>a9h false (.cells c n t) s fun q i s=>k (.p q i 0) s) t n) (fun t n _=>(fun _ _ _ _ _=>none) t n) (fun _ _ _=>none) (fun x a b c d _ _ _ _ _=>(fun _ _ _ _ _ _ _ _=>none) x a b c d) v t s k
noncomputable def yBox (t:Nat) (x:Operand):OpC:=fun _ fr s k=>bxV (oV x fr) t s k
noncomputable def lyG (c:FV) (m:Nat) (t:FV) (off size N:Nat) (k:FV→Ans):Ans:=iff (Nat.beq m size) (iff (Nat.ble (Nat.add off size) N) (k (aOz t c off size N)))
noncomputable def ly1 (v:FV) (t:FV) (off size N:Nat) (k:FV→Ans):Ans:=iff (Nat.beq size 1) (iff (Nat.ble (Nat.succ off) N) (k (ab8 (p4 off) v t)))
noncomputable def lyV (v:FV) (t:FV) (off size N:Nat) (k:FV→Ans):Ans:=FV.rec (motive:=fun _=>FV→Nat→Nat→Nat→(FV→Ans)→Ans) (fun k n=>ly1 (.i k n)) (fun v=>ly1 (.b v)) (fun q k o=>ly1 (.p q k o)) (fun q k o n c=>ly1 (.s q k o n c)) (fun v=>ly1 (.o v)) (fun _=>fun _ _ _ _ _=>none) (fun t n _=>lyG t n) (fun _ _ _=>fun _ _ _ _ _=>none) (fun _ _ _ _ _=>none) (fun _ _ _ _ _ _ _ _ _ _=>fun _ _ _ _ _=>none) v t off size N k
abbrev PL:=Nat→Option (Nat×Nat)
noncomputable def apc (pl:PL) (N:Nat) (l:List (Nat×FV)) (t:FV) (k:FV→Ans):Ans :=
 List.rec (motive:=fun _=>FV→Ans) k (fun p _ ih t=>opt (pl p.1) fun z=>lyV p.2 t z.1 z.2 N ih) l t
noncomputable def anm (l:List (Nat×Operand)) (fr:FF):List (Nat×FV):=List.rec (motive:=fun _=>List (Nat×FV)) [] (fun p _ ih=>(p.1,oV p.2 fr) :: ih) l
noncomputable def aUp (P:Program) (t:Nat):PL:=fun j=>match a1q P t with
 | some ty=>match ty.d with
  | .abb fs=>placeOf P fs j
  | .arr _ e=>match a5i P e with
   | some n=>some (j * n,n)
   | none=>none
  | _=>none
 | none=>none
noncomputable def aY1 (P:Program) (t:Nat):Bool:=match a1q P t with
 | some ty=>match ty.d with
  | .abb fs=>ac6 P fs
  | .arr _ e=>match a5i P e with
   | some _=>true
   | none=>false
  | _=>false
 | none=>false
noncomputable def an1 (P:Program) (t:Nat) (ps:List (Nat×FV)) (s:QW) (k:KV):Ans:=iff (aY1 P t) (opt (avg P t) fun z=>apc (aUp P t) z.2 ps z.1 fun r=>k (.g r z.2) s)
noncomputable def aId (t:Nat) (ps:Array (Nat×Operand)):OpC:=fun c fr s k=>an1 c.P t (anm ps.toList fr) s k
noncomputable def bsOf (P:Program) (t len:Nat):Option (Nat×Nat×FV×Nat):=match a1q P t with
 | some ⟨.slice e,_,_,_⟩=>match a1q P e with
  | some ty=>match Nat.ble (len * ty.size) 16777216&&Nat.beq ty.zero.length ty.size&&a1f ty.zero with
   | true=>some (e,ty.size,a0r (af1 ty.zero len),(af1 ty.zero len).length)
   | false=>none
  | none=>none
 | _=>none
noncomputable def ab4 (P:Program) (t len:Nat) (ps:List (Nat×FV)) (s:QW) (k:KV):Ans:=opt (bsOf P t len) fun z=>apc (fun j=>some (j * z.2.1,z.2.1)) z.2.2.2 ps z.2.2.1 fun r=>a9h false (.cells r z.2.2.2 z.1) s fun q i s=>k (.s q i 0 len len) s
noncomputable def aeh (t len:Nat) (ps:Array (Nat×Operand)):OpC:=fun c fr s k=>ab4 c.P t len (anm ps.toList fr) s k
noncomputable def nilA (v:AV) (s:QW) (k:KV):Ans:=match v with
 | .f fn a c=>k (.o (.f fn a c)) s
 | .m r=>k (.o (.m r)) s
 | _=>none
noncomputable def aPm (v:FV) (s:QW) (k:KV):Ans:=FV.rec (motive:=fun _=>QW→KV→Ans) (fun _ _=>fun _ _=>none) (fun _=>fun _ _=>none) (fun q i o s k=>k (.p q i o) s) (fun _ _ _ _ _=>fun _ _=>none) nilA (fun _=>fun _ _=>none) (fun _ _ _=>fun _ _=>none) (fun _ _ _=>fun _ _=>none) (fun _ _=>none) (fun _ _ _ _ _ _ _ _ _ _=>fun _ _=>none) v s k
noncomputable def yNil (x:Operand):OpC:=fun _ fr s k=>aPm (oV x fr) s k
noncomputable def azc (P:Program) (a t:Nat):Option IntKind:=match a1q P a,a1q P t with
 | some _,some ⟨.int k,_,_,_⟩=>some k
 | _,_=>none
noncomputable def cvS (kd:IntKind) (v:AV) (s:QW) (k:KV):Ans:=match v with
 | .i _ n=>k (ofI kd (a5o kd n)) s
 | .x _ j=>opt (Sym.cv kd j) fun v=>k (ofV v) s
 | _=>none
noncomputable def cvV (v:FV) (kd:IntKind) (s:QW) (k:KV):Ans:=FV.rec (motive:=fun _=>IntKind→QW→KV→Ans) (fun _ n kd s k=>k (avl kd n) s) (fun _=>fun _ _ _=>none) (fun _ _ _=>fun _ _ _=>none) (fun _ _ _ _ _=>fun _ _ _=>none) (fun v kd s k=>cvS kd v s k) (fun _=>fun _ _ _=>none) (fun _ _ _=>fun _ _ _=>none) (fun _ _ _=>fun _ _ _=>none) (fun _ _ _=>none) (fun _ _ _ _ _ _ _ _ _ _=>fun _ _ _=>none) v kd s k
noncomputable def arv (v:FV):Option (List Nat):=match a2t v with
 | .g l=>a4c l
 | _=>none
noncomputable def cvT (P:Program) (a t:Nat) (x:FV) (s:QW) (k:KV):Ans:=match a1q P a,a1q P t with
 | some sd,some d=>match sd.d,d.d,x with
  | _,.str,.o (.s v)=>k (.o (.s v)) s
  | .slice e,.str,.s q i o n _=>match a1q P e with
   | some ⟨.int .u8,_,_,_⟩=>aiv q i o n s fun v s=>opt (arv v) fun r=>k (.o (.s r)) s
   | _=>none
  | .slice e,.str,.o (.sl none _ _)=>match a1q P e with
   | some ⟨.int .u8,_,_,_⟩=>k (.o (.s [])) s
   | _=>none
  | _,_,_=>none
 | _,_=>none
noncomputable def aMt (a t:Nat) (x:Operand):OpC:=fun c fr s k=>Option.rec (motive:=fun _=>Ans) (cvT c.P a t (oV x fr) s k) (fun kd=>cvV (oV x fr) kd s k) (azc c.P a t)
noncomputable def ak6 (l:List Operand) (fr:FF):List FV:=List.rec (motive:=fun _=>List FV) [] (fun x _ ih=>oV x fr :: ih) l
noncomputable def aSb (l:List FV):List AV:=List.rec (motive:=fun _=>List AV) [] (fun x _ ih=>a2t x :: ih) l
noncomputable def abt (f:Nat) (a c:List FV) (s:QW) (k:KV):Ans:=k (.o (.f f (aSb a) (aSb c))) s
noncomputable def avj (fn:Fn) (a c:Array Operand):OpC:=fun _ fr s k=>match fn with
 | .func f=>abt f (ak6 a.toList fr) (ak6 c.toList fr) s k
 | _=>none
noncomputable def aGd (s:QW) (k:KV):Ans:=a9h false (.map [] 0) s fun _ i s=>k (.o (.m (some i))) s
noncomputable def aBo (_:Nat) (r:Option Operand):OpC:=fun _ _ s k=>match r with
 | none=>aGd s k
 | some _=>none
noncomputable def aTt (z:FV) (size:Nat) (n:Nat):FV:=Nat.rec (motive:=fun _=>FV) .e (fun j ih=>ovT ih z (Nat.mul j size) size) n
noncomputable def aZf (P:Program) (t:Nat):Option (Nat×Nat×FV):=match a1q P t with
 | some ⟨.slice e,_,_,_⟩=>match a1q P e with
  | some ty=>match Nat.ble ty.bytes 100000&&Nat.beq ty.zero.length ty.size&&a1f ty.zero with
   | true=>some (e,ty.size,a0r ty.zero)
   | false=>none
  | none=>none
 | _=>none
noncomputable def ahs (P:Program) (t:Nat) (l c:FV) (s:QW) (k:KV):Ans:=opt (aZf P t) fun z=>alr l fun l=>alr c fun c=>iff (Nat.ble l c&&Nat.ble c 1000000) (a9h false (.cells (aTt z.2.2 z.2.1 c) (Nat.mul c z.2.1) z.1) s fun q i s=>k (.s q i 0 l c) s)
noncomputable def ah2 (t:Nat) (l c:Operand):OpC:=fun cx fr s k=>ahs cx.P t (oV l fr) (oV c fr) s k
noncomputable def b05 (x:Option FV):Option AV:=match x with
 | some x=>some (a2t x)
 | none=>none
noncomputable def aZ8 (x:Option Operand) (fr:FF):Option FV:=Option.rec (motive:=fun _=>Option FV) none (fun x=>some (oV x fr)) x
noncomputable def aRq (P:Program) (t T:Nat):Bool:=match a1q P t with
 | some ⟨.slice e,_,_,_⟩=>Nat.beq T e
 | _=>false
noncomputable def chkO (v:AV) (s:QW) (k:KS):Ans:=match v with
 | .sl (some _) _ _=>none
 | _=>k s
noncomputable def b4o (P:Program) (t:Nat) (v:FV) (s:QW) (k:KS):Ans:=FV.rec (motive:=fun _=>Program→Nat→QW→KS→Ans) (fun _ _=>fun _ _ _ _=>none) (fun _=>fun _ _ _ _=>none) (fun _ _ _ _ _ s k=>k s) (fun q i _ _ _ P t s k=>Bool.rec (motive:=fun _=>Ans) (k s) (aRw q i s fun T s=>iff (aRq P t T) (k s)) (gw i)) (fun v _ _ s k=>chkO v s k) (fun _=>fun _ _ _ _=>none) (fun _ _ _=>fun _ _ _ _=>none) (fun _ _ _=>fun _ _ _ _=>none) (fun _ _ _ _=>none) (fun _ _ _ _ _ _ _ _ _ _=>fun _ _ _ _=>none) v P t s k
noncomputable def aIl (P:Program) (t:Nat) (x:FV) (lo hi mx:Option FV) (s:QW) (k:KV):Ans:=b4o P t x s fun s=>opt (abe P t (a2t x) (b05 lo) (b05 hi) (b05 mx)) fun v=>k (ofV v) s
noncomputable def avi (t:Nat) (x:Operand) (lo hi mx:Option Operand):OpC:=fun c fr s k=>aIl c.P t (oV x fr) (aZ8 lo fr) (aZ8 hi fr) (aZ8 mx fr) s k
noncomputable def b44 (P:Program) (t j:Nat):Option (Bool×Nat×Nat):=match a1q P t with
 | some ⟨.abb fs,_,_,_⟩=>match fs[j]? with
  | some (ft,off)=>match a1q P ft with
   | some ty=>some (agg ty.d,off,ty.size)
   | none=>none
  | none=>none
 | _=>none
noncomputable def prt (t:FV) (n:Nat) (b:Bool) (off size:Nat) (s:QW) (k:KV):Ans:=Bool.rec (motive:=fun _=>Ans) (iff (Nat.ble (Nat.succ off) n) (k (a1d (p4 off) t) s)) (iff (Nat.ble (Nat.add off size) n) (k (.g (aCo t off size) size) s)) b
noncomputable def prV (v:FV) (b:Bool) (off size:Nat) (s:QW) (k:KV):Ans:=FV.rec (motive:=fun _=>Bool→Nat→Nat→QW→KV→Ans) (fun _ _=>fun _ _ _ _ _=>none) (fun _=>fun _ _ _ _ _=>none) (fun _ _ _=>fun _ _ _ _ _=>none) (fun _ _ _ _ _=>fun _ _ _ _ _=>none) (fun _=>fun _ _ _ _ _=>none) (fun _=>fun _ _ _ _ _=>none) (fun t n _=>prt t n) (fun _ _ _=>fun _ _ _ _ _=>none) (fun _ _ _ _ _=>none) (fun _ _ _ _ _ _ _ _ _ _=>fun _ _ _ _ _=>none) v b off size s k
noncomputable def aSi (t:Nat) (x:Operand) (j:Nat):OpC:=fun c fr s k=>opt (b44 c.P t j) fun z=>prV (oV x fr) z.1 z.2.1 z.2.2 s k
noncomputable def aZn (P:Program) (t:Nat):Option (Nat×Bool×Nat):=match a1q P t with
 | some ⟨.arr n e,_,_,_⟩=>match a1q P e with
  | some ty=>some (n,agg ty.d,ty.size)
  | none=>none
 | _=>none
noncomputable def ixS (P:Program) (t:Nat) (x ix:FV) (s:QW) (k:KV):Ans:=opt (afp P t (a2t x) (a2t ix)) fun v=>k (ofV v) s
noncomputable def aSh (t:Nat) (x ix:Operand):OpC:=fun c fr s k=>Option.rec (motive:=fun _=>Ans) (ixS c.P t (oV x fr) (oV ix fr) s k) (fun z=>alr (oV ix fr) fun j=>iff (Nat.ble (Nat.succ j) z.1) (prV (oV x fr) z.2.1 (Nat.mul j z.2.2) z.2.2 s k)) (aZn c.P t)
noncomputable def mrC (x:FV) (s:QW) (k:ME→QW→Ans):Ans:=match a2t x with
 | .m none=>k [] s
 | .m (some r)=>rmC r s fun es _ s=>k es s
 | _=>none
noncomputable def ayt (P:Program) (t:Nat) (x ix:FV) (ok:Bool) (s:QW) (k:KV):Ans:=match a1q P t with
 | some ⟨.map kt et,_,_,_⟩=>match a1q P kt,aZ1 P et with
  | some kd,some z=>iff (a6t kd.d) (mrC x s fun es s=>match ami kd.d (a2t ix) es with
   | some (some v)=>match ok with
    | true=>k (ofV (.t [v,.b true])) s
    | false=>k (ofV v) s
   | some none=>match ok with
    | true=>k (ofV (.t [z,.b false])) s
    | false=>k (ofV z) s
   | none=>none)
  | _,_=>none
 | _=>none
noncomputable def anj (t:Nat) (x ix:Operand) (ok:Bool):OpC:=fun c fr s k=>ayt c.P t (oV x fr) (oV ix fr) ok s k
noncomputable def ayr (P:Program) (t:Nat) (mp kx v:FV) (s:QW) (k:KV):Ans:=iff (sc (a2t kx)&&sc (a2t v)) (match a1q P t,a2t mp with
 | some ⟨.map kt _,_,_,_⟩,.m (some r)=>match a1q P kt with
  | some kd=>iff (a6t kd.d) (rmC r s fun es clock s=>match aBu kd.d (a2t kx) (a2t v) clock es with
   | some (es',c)=>wmC r es' c s (k .e)
   | none=>none)
  | none=>none
 | _,_=>none)
noncomputable def ace (t:Nat) (mp kx v:Operand):OpC:=fun c fr s k=>ayr c.P t (oV mp fr) (oV kx fr) (oV v fr) s k
noncomputable def exV (v:FV) (j:Nat) (s:QW) (k:KV):Ans:=FV.rec (motive:=fun _=>Nat→QW→KV→Ans) (fun _ _=>fun _ _ _=>none) (fun _=>fun _ _ _=>none) (fun _ _ _=>fun _ _ _=>none) (fun _ _ _ _ _=>fun _ _ _=>none) (fun _=>fun _ _ _=>none) (fun _=>fun _ _ _=>none) (fun _ _ _=>fun _ _ _=>none) (fun t n _=>(fun t n j s k=>iff (Nat.ble (Nat.succ j) n) (k (a1d (p4 j) t) s)) t n) (fun _ _ _=>none) (fun _ _ _ _ _ _ _ _ _ _=>fun _ _ _=>none) v j s k
noncomputable def aBp (x:Operand) (j:Nat):OpC:=fun _ fr s k=>exV (oV x fr) j s k
noncomputable def aH7 (v:FV):FV:=FV.rec (motive:=fun _=>FV) (fun _ _=>.e) (fun _=>.e) (fun _ _ _=>.e) (fun _ _ _ _ _=>.e) (fun _=>.e) (fun _=>.e) (fun t n _=>(fun t _=>t) t n) (fun _ _ _=>.e) (.e) (fun _ _ _ _ _ _ _ _ _ _=>.e) v
noncomputable def slD (P:Program) (t:Nat):Bool:=match a1q P t with
 | some ⟨.slice _,_,_,_⟩=>true
 | _=>false
noncomputable def au8 (P:Program) (t:Nat) (x:FV) (s:QW) (k:KV):Ans:=match a1q P t with
 | none=>none
 | some ty=>match ty.d,a2t x with
  | .str,.s v=>k (.i .i64 v.length) s
  | .arr n _,_=>k (.i .i64 n) s
  | .slice _,.sl _ n _=>k (.i .i64 n) s
  | .slice _,.se=>k (.i .i64 0) s
  | .map _ _,.m none=>k (.i .i64 0) s
  | .map _ _,.m (some r)=>rmC r s fun es _ s=>k (.i .i64 es.length) s
  | _,_=>none
noncomputable def aM8 (x:FV) (P:Program) (t:Nat) (s:QW) (k:KV):Ans:=FV.rec (motive:=fun _=>Program→Nat→QW→KV→Ans) (fun k n=>fun PP tt ss kk=>au8 PP tt (FV.i k n) ss kk) (fun v=>fun PP tt ss kk=>au8 PP tt (FV.b v) ss kk) (fun q k o=>fun PP tt ss kk=>au8 PP tt (FV.p q k o) ss kk) (fun q i o n c P t s k=>Bool.rec (motive:=fun _=>Ans) (au8 P t (.s q i o n c) s k) (k (.i .i64 n) s) (slD P t)) (fun v=>fun PP tt ss kk=>au8 PP tt (FV.o v) ss kk) (fun v=>fun PP tt ss kk=>au8 PP tt (FV.w v) ss kk) (fun t n _=>fun PP tt ss kk=>au8 PP tt (FV.g t n) ss kk) (fun t n _=>fun PP tt ss kk=>au8 PP tt (FV.t t n) ss kk) (fun PP tt ss kk=>au8 PP tt (FV.e) ss kk) (fun x a b c d _ _ _ _ _=>fun PP tt ss kk=>au8 PP tt (FV.n x a b c d) ss kk) x P t s k
abbrev b58:=Nat→FV→Nat→QW→Ans
noncomputable def b1m (v:AV) (s:QW) (k:b58):Ans:=match v with
 | .sl none 0 _=>k 0 .e 0 s
 | .se=>k 0 .e 0 s
 | .s b=>k b.length (a0r (b.map fun c=>.i .u8 (.ofNat c))) b.length s
 | _=>none
noncomputable def b1l (x:FV) (size:Nat) (s:QW) (k:b58):Ans:=FV.rec (motive:=fun _=>Nat→QW→b58→Ans) (fun _ _=>fun _ _ _=>none) (fun _=>fun _ _ _=>none) (fun _ _ _=>fun _ _ _=>none) (fun q i o n _ size s k=>aiv q i o (Nat.mul n size) s fun v s=>k n (aH7 v) (Nat.mul n size) s) (fun v _ s k=>b1m v s k) (fun _=>fun _ _ _=>none) (fun _ _ _=>fun _ _ _=>none) (fun _ _ _=>fun _ _ _=>none) (fun _ _ _=>none) (fun _ _ _ _ _ _ _ _ _ _=>fun _ _ _=>none) x size s k
noncomputable def apOf (P:Program) (t xt:Nat):Option (Nat×Nat):=match a1q P t with
 | some ⟨.slice e,_,_,_⟩=>match a1q P e with
  | some ty=>match !afn P xt&&Nat.beq ty.zero.length ty.size&&Nat.ble ty.bytes 100000 with
   | true=>some (e,ty.size)
   | false=>none
  | none=>none
 | _=>none
noncomputable def jnT (old new:FV) (off nc:Nat):FV:=Bool.rec (motive:=fun _=>FV) (ovT old new off nc) new (Nat.beq off 0)
noncomputable def aR6 (old new:FV) (off nc e cnt:Nat) (s:QW) (k:KV):Ans:=a9h true (.cells (jnT old new off nc) (Nat.add off nc) e) s fun q i s=>k (.s q i 0 cnt cnt) s
noncomputable def apS (q:P4) (b o n c:Nat) (e size cnt:Nat) (new:FV) (nc:Nat) (s:QW) (k:KV):Ans :=
 Bool.rec (motive:=fun _=>Ans)
  (iff (Nat.ble (Nat.add n cnt) 1000000) (aiv q b o (Nat.mul n size) s fun old s=>Bool.rec (motive:=fun _=>Ans)
   (aR6 (aH7 old) new (Nat.mul n size) nc e (Nat.add n cnt) s k)
   (aRw q b s fun T s=>iff (Nat.beq T e) (iff (Nat.ble 2048 b) (aWj q b s fun s=>aR6 (aH7 old) new (Nat.mul n size) nc e (Nat.add n cnt) s k))) (gw b)))
  (Nat.rec (motive:=fun _=>Ans) (k (.s q b o (Nat.add n cnt) c) s) (fun _ _=>aMu q b (Nat.add o (Nat.mul n size)) new nc s (k (.s q b o (Nat.add n cnt) c))) nc) (Nat.ble (Nat.add n cnt) c)
noncomputable def apA (v:AV) (e _size cnt:Nat) (new:FV) (nc:Nat) (s:QW) (k:KV):Ans:=match v with
 | .sl none n c=>Bool.rec (motive:=fun _=>Ans) (iff (Nat.ble (Nat.add n cnt) 1000000) (iff (Nat.beq n 0) (a9h true (.cells new nc e) s fun q i s=>k (.s q i 0 cnt cnt) s))) (k (.o (.sl none (Nat.add n cnt) c)) s) (Nat.ble (Nat.add n cnt) c)
 | _=>none
noncomputable def apV (x:FV) (e size cnt:Nat) (new:FV) (nc:Nat) (s:QW) (k:KV):Ans:=FV.rec (motive:=fun _=>Nat→Nat→Nat→FV→Nat→QW→KV→Ans) (fun _ _=>fun _ _ _ _ _ _ _=>none) (fun _=>fun _ _ _ _ _ _ _=>none) (fun _ _ _=>fun _ _ _ _ _ _ _=>none) apS apA (fun _=>fun _ _ _ _ _ _ _=>none) (fun _ _ _=>fun _ _ _ _ _ _ _=>none) (fun _ _ _=>fun _ _ _ _ _ _ _=>none) (fun _ _ _ _ _ _ _=>none) (fun _ _ _ _ _ _ _ _ _ _=>fun _ _ _ _ _ _ _=>none) x e size cnt new nc s k
noncomputable def agc (P:Program) (t xt:Nat) (d x:FV) (s:QW) (k:KV):Ans:=opt (apOf P t xt) fun z=>b1l x z.2 s fun cnt new nc s=>iff (Nat.beq nc (Nat.mul cnt z.2)) (apV d z.1 z.2 cnt new nc s k)
noncomputable def cpOf (P:Program) (t:Nat):Option Nat:=match a1q P t with
 | some ⟨.slice e,_,_,_⟩=>match a1q P e with
  | some ty=>some ty.size
  | none=>none
 | _=>none
noncomputable def cpS (q:P4) (b o n _c:Nat) (size cnt:Nat) (new:FV) (s:QW) (k:KV):Ans:=Nat.rec (motive:=fun _=>Ans) (k (.i .i64 (ar9 cnt n)) s) (fun _ _=>aMu q b o new (Nat.mul (ar9 cnt n) size) s (k (.i .i64 (ar9 cnt n)))) (Nat.mul (ar9 cnt n) size)
noncomputable def cpA (v:AV) (_size _cnt:Nat) (_new:FV) (s:QW) (k:KV):Ans:=match v with
 | .sl none 0 _=>k (.i .i64 0) s
 | .se=>k (.i .i64 0) s
 | _=>none
noncomputable def cpV (x:FV) (size cnt:Nat) (new:FV) (s:QW) (k:KV):Ans:=FV.rec (motive:=fun _=>Nat→Nat→FV→QW→KV→Ans) (fun _ _=>fun _ _ _ _ _=>none) (fun _=>fun _ _ _ _ _=>none) (fun _ _ _=>fun _ _ _ _ _=>none) cpS cpA (fun _=>fun _ _ _ _ _=>none) (fun _ _ _=>fun _ _ _ _ _=>none) (fun _ _ _=>fun _ _ _ _ _=>none) (fun _ _ _ _ _=>none) (fun _ _ _ _ _ _ _ _ _ _=>fun _ _ _ _ _=>none) x size cnt new s k
noncomputable def aXw (P:Program) (t:Nat) (d x:FV) (s:QW) (k:KV):Ans:=opt (cpOf P t) fun size=>b1l x size s fun cnt new nc s=>iff (Nat.beq nc (Nat.mul cnt size)) (cpV d size cnt new s k)
noncomputable def mmC (m:Bool) (x:FV) (l:List FV) (s:QW) (k:KV):Ans:=opt (aGb m (a2t x) (l.map a2t)) fun v=>k (ofV v) s
noncomputable def biC (bi:Builtin) (ts:List Nat) (args:List FV) (P:Program) (s:QW) (k:KV):Ans :=
 match bi,ts,args with
 | .len,t :: _,[x]=>aM8 x P t s k
 | .append,t :: xt :: _,[d,x]=>agc P t xt d x s k
 | .copy,t :: _,[d,x]=>aXw P t d x s k
 | .max,_,x :: l=>mmC true x l s k
 | .min,_,x :: l=>mmC false x l s k
 | _,_,_=>none
noncomputable def aor (l:List AV) (r:List FV):List FV:=List.rec (motive:=fun _=>List FV) r (fun x _ ih=>ofV x :: ih) l
noncomputable def b04 (l r:List FV):List FV:=List.rec (motive:=fun _=>List FV) r (fun x _ ih=>x :: ih) l
noncomputable def clA (v:AV) (args:List FV) (call yl:CF) (s:QW) (k:KV):Ans:=match v with
 | .f fn a cp=>call fn (aor a (b04 args (aor cp []))) s k
 | .y l=>yl l args s k
 | _=>none
noncomputable def aAo (g:FV) (args:List FV) (call yl:CF) (s:QW) (k:KV):Ans:=FV.rec (motive:=fun _=>List FV→CF→CF→QW→KV→Ans) (fun _ _=>fun _ _ _ _ _=>none) (fun _=>fun _ _ _ _ _=>none) (fun _ _ _=>fun _ _ _ _ _=>none) (fun _ _ _ _ _=>fun _ _ _ _ _=>none) clA (fun _=>fun _ _ _ _ _=>none) (fun _ _ _=>fun _ _ _ _ _=>none) (fun _ _ _=>fun _ _ _ _ _=>none) (fun _ _ _ _ _=>none) (fun _ _ _ _ _ _ _ _ _ _=>fun _ _ _ _ _=>none) g args call yl s k
noncomputable def b0v (cl:Call):OpC:=fun c fr s k=>Callee.rec (motive:=fun _=>Ans) (fun f=>aAo (oV f fr) (ak6 cl.args.toList fr) c.call c.yl s k) (fun _ _=>none) (fun bi=>biC bi cl.argTypes.toList (ak6 cl.args.toList fr) c.P s k) cl.callee
noncomputable def opC (o:Op):OpC:=fun c fr s k=>Op.rec (motive:=fun _=>OpC) aSg aSg aMs aIe yBox aId aeh (fun _ _ _ _ _ _ _ _=>none) b0u avh (fun _ _ _ _ _=>none) (fun _ _ _ _ _=>none) yNil yBin yUn aMt (fun _ _ _ _ _ _=>none) (fun _ _ _ _ _ _=>none) avj aBo (fun _ _ _ _ _ _=>none) ah2 avi asn aSi asl aSh anj ace (fun _ _ _ _ _ _ _=>none) (fun _ _ _ _ _ _ _ _=>none) (fun _ _ _ _ _ _=>none) (fun _ _ _ _ _ _=>none) (fun _ _ _ _ _=>none) (fun _ _ _ _ _ _ _ _=>none) aBp b0v (fun _ _ _ _ _=>none) (fun _ _ _ _ _=>none) (fun _ _ _ _ _=>none) (fun _ _ _ _ _ _=>none) (fun _ _ _ _ _ _ _=>none) (fun _ _ _ _ _ _=>none) o c fr s k
noncomputable def avb (d:Option Nat) (fr:FF) (v:FV) (s:QW) (k:KF):Ans:=(fun (_:Nat)=>Option.rec (motive:=fun _=>FF→FV→QW→KF→Ans) (fun fr _ s k=>k fr s) (fun i fr v s k=>FF.rec (motive:=fun _=>Nat→FV→QW→KF→Ans) (fun t nt mks i v s k=>Bool.rec (motive:=fun _=>Ans) none (k ⟨ab8 (p4 i) v t,nt,mks⟩ s) (Nat.ble (Nat.succ i) nt)) fr i v s k) d fr v s k) b3v
noncomputable def aQb (ops:List Oper) (j:Nat):Option Nat:=match ops[j]? with
 | some q=>q.dst
 | none=>none
noncomputable def eqB (a b:Bool):Bool:=Bool.rec (motive:=fun _=>Bool) (aS1 b) b a
noncomputable def wA (v:AV) (n:Ans):Ans:=match v with
 | .bad=>none
 | _=>n
noncomputable def wO (v:AV) (n:Ans):Ans:=match v with
 | .b _=>none
 | _=>n
noncomputable def a1p (v:FV) (want:Bool) (y n:Ans):Ans:=FV.rec (motive:=fun _=>Bool→Ans→Ans→Ans) (fun _ n=>fun _ _ n=>n) (fun v want y n=>Bool.rec (motive:=fun _=>Ans) n y (eqB v want)) (fun _ _ _=>fun _ _ n=>n) (fun _ _ _ n _=>fun _ _ n=>n) (fun v _ _ n=>wO v n) (fun v _ _ n=>wA v n) (fun _ n _=>fun _ _ n=>n) (fun _ n _=>fun _ _ n=>n) (fun _ _ n=>n) (fun _ _ _ _ _ _ _ _ _ _=>fun _ _ n=>n) v want y n
noncomputable def aWw (g:Nat×Bool) (ops:List Oper) (fr:FF) (y n:Ans):Ans:=Option.rec (motive:=fun _=>Ans) n (fun t=>a1p (oT t fr) g.2 y n) (aQb ops g.1)
noncomputable def oneG (g:Nat×Bool) (d:Option Nat) (o:Op):Cx→FF→QW→KF→Ans:=fun c fr s k=>bnk (fun kk=>aWw g c.ops fr (opC o c fr s kk) (kk .e s)) (fun v s=>avb d fr v s k)
noncomputable def oneN (d:Option Nat) (o:Op):Cx→FF→QW→KF→Ans:=fun c fr s k=>opC o c fr s fun v s=>avb d fr v s k
noncomputable def oneX (d:Option Nat) (o:Op) (_:Nat) (_:String) (_:Array Edge) (g:Option (Nat×Bool)):Cx→FF→QW→KF→Ans:=Option.rec (motive:=fun _=>Option Nat→Op→Cx→FF→QW→KF→Ans) oneN oneG g d o
noncomputable def aUy (o:Oper):Cx→FF→QW→KF→Ans:=Oper.rec (motive:=fun _=>Cx→FF→QW→KF→Ans) oneX o
noncomputable def opsN (_:Cx) (fr:FF) (s:QW) (k:KF):Ans:=k fr s
noncomputable def opsK (o:Oper) (_:List Oper) (ih:Cx→FF→QW→KF→Ans) (c:Cx) (fr:FF) (s:QW) (k:KF):Ans:=aUy o c fr s fun fr s=>ih c fr s k
noncomputable def b2r (l:List Oper):Cx→FF→QW→KF→Ans:=List.rec (motive:=fun _=>Cx→FF→QW→KF→Ans) opsN opsK l
structure QF where
 lg:List LE
 wl:List LE
 lo:Nat
 hi:Nat
noncomputable def leK (e:LE):Nat:=LE.rec (motive:=fun _=>Nat) (fun k _ _ _=>k) e
noncomputable def mrg (base:Nat) (a b:List LE):List LE:=List.rec (motive:=fun _=>List LE) b (fun e _ ih=>a9y base (leK e) e ih) a
noncomputable def dbl (n:Nat):Nat:=Nat.mul 2 n
noncomputable def sndK (base nx0:Nat) (lg wl:List LE) (k:QF→KF) (fr:FF) (s:QW):Ans:=(fun (_:Nat)=>QW.rec (motive:=fun _=>Ans) (fun m nx _ lg' wl'=>k ⟨lg',wl',dbl nx0,dbl nx⟩ fr ⟨m,nx,base,mrg base lg' lg,mrg base wl' wl⟩) s) b3v
noncomputable def aTe (o:Oper) (c:Cx) (fr:FF) (s:QW) (k:QF→KF):Ans:=QW.rec (motive:=fun _=>Ans) (fun m nx base lg wl=>aUy o c fr ⟨m,nx,dbl nx,[],[]⟩ (sndK base nx lg wl k)) s
noncomputable def aFr (l:List Oper) (c:Cx) (fr:FF) (s:QW) (k:List QF→KF):Ans:=List.rec (motive:=fun _=>FF→QW→(List QF→KF)→Ans) (fun fr s k=>k [] fr s) (fun o _ ih fr s k=>aTe o c fr s fun q fr s=>ih fr s fun qs fr s=>k (q :: qs) fr s) l fr s k
def prs (bef:Nat) (b:aeg):List aeg→Nat→Option (List Bool)
 | [],_=>some []
 | a :: l,j=>match bef.testBit j with
  | true=>match prs bef b l (j+1) with
   | some r=>some (false :: r)
   | none=>none
  | false=>match apg a.dst b.ins&&apg a.dst b.dst&&apg b.dst a.ins with
   | true=>match prs bef b l (j+1) with
    | some r=>some (true :: r)
    | none=>none
   | false=>none
def ala (pre:List aeg):List aeg→List Nat→Option (List (List Bool))
 | [],_=>some []
 | b :: l,bf :: bs=>match prs bf b pre 0 with
  | some r=>match ala (pre ++ [b]) l bs with
   | some rs=>some (r :: rs)
   | none=>none
  | none=>none
 | _ :: _,[]=>none
def ajq (ops:List Oper) (o:Oper):aeg:=⟨tmpsOf o ops,o.dst.toList,[],[]⟩
def aNf (P:Program) (ops:List Oper):Option (List (List Bool)):=match P.follows .mixedOrders&&acu ops 0 with
 | true=>ala [] (ops.map (ajq ops)) (aSa ops [])
 | false=>none
def afb (lo hi:Nat):List LE→Bool
 | []=>true
 | e :: l=>match Nat.ble lo e.k&&Nat.ble (e.k+1) hi with
  | true=>false
  | false=>afb lo hi l
def ald (a b:QF):Bool:=match a,b with
 | ⟨lg,wl,lo,hi⟩,⟨lg',wl',lo',hi'⟩=>(Nat.ble hi lo' || Nat.ble hi' lo)&&afb lo hi lg' && afb lo hi wl' && afb lo' hi' lg&&afb lo' hi' wl&&clear wl lg' && clear wl' lg
def aQp (b:QF):List Bool→List QF→Bool
 | m :: ms,a :: l=>match m with
  | true=>match ald a b with
   | true=>aQp b ms l
   | false=>false
  | false=>aQp b ms l
 | [],[]=>true
 | _,_=>false
def aQq (pre:List QF):List QF→List (List Bool)→Bool
 | [],[]=>true
 | b :: l,m :: ms=>match aQp b m pre with
  | true=>aQq (pre ++ [b]) l ms
  | false=>false
 | _,_=>false
noncomputable def aZ7 (draw:Bool) (c:Cx) (fr:FF) (s:QW) (k:KF):Ans:=Bool.rec (motive:=fun _=>Ans) (b2r c.ops c fr s k) (opt (aNf c.P c.ops) fun ms=>aFr c.ops c fr s fun qs fr s=>iff (aQq [] qs ms) (k fr s)) draw
abbrev SMF:=Nat→Option (List FV→QW→KV→Ans)
abbrev IH:=Option Nat→Code→FF→QW→KE→Ans
noncomputable def aO2 (P:Program) (fr:FF) (rs:List ResultVar) (s:QW) (k:List FV→QW→Ans):Ans :=
 List.rec (motive:=fun _=>QW→(List FV→QW→Ans)→Ans) (fun s k=>k [] s) (fun r _ ih s k=>ResultVar.rec (motive:=fun _=>Ans) (fun t=>ih s fun vs s=>k (oT t fr :: vs) s) (fun a t=>au5 P t (oT a fr) s fun v s=>ih s fun vs s=>k (v :: vs) s) r) rs s k
noncomputable def awx (l:List Nat) (s:QW) (k:KS):Ans:=List.rec (motive:=fun _=>QW→KS→Ans) (fun s k=>k s) (fun i _ ih s k=>aCu i s fun s=>ih s k) l s k
noncomputable def aW4 (v:FV):Bool:=FV.rec (motive:=fun _=>Bool) (fun _ _=>true) (fun _=>true) (fun _ _ _=>true) (fun _ _ _ _ _=>true) (fun _=>true) (fun _=>true) (fun _ _ _=>true) (fun _ _ _=>false) (true) (fun _ _ _ _ _ _ _ _ _ _=>true) v
noncomputable def aR8 (l:List FV):Bool:=List.rec (motive:=fun _=>Bool) true (fun v _ ih=>Bool.rec (motive:=fun _=>Bool) false ih (aW4 v)) l
noncomputable def tupC (l:List FV) (s:QW) (k:KV):Ans:=iff (aR8 l) (k (.t (mkT l 0) l.length) s)
noncomputable def aZc (l:List FV) (s:QW) (k:KV):Ans:=match l with
 | [v]=>k v s
 | l=>tupC l s k
noncomputable def bkS (base:Nat) (lg wl:List LE) (k:KV) (v:FV) (s:QW):Ans:=QW.rec (motive:=fun _=>Ans) (fun m nx _ lg' wl'=>k v ⟨m,nx,base,mrg base lg' lg,mrg base wl' wl⟩) s
noncomputable def aMf (fr:FF):List Nat:=FF.rec (motive:=fun _=>List Nat) (fun _ _ m=>m) fr
noncomputable def az0 (P:Program) (rs:List ResultVar) (fr:FF) (s:QW) (k:KV):Ans:=awx (aMf fr) s fun s=>aO2 P fr rs s fun vs s=>aZc vs s k
noncomputable def aO0 (P:Program) (rs:List ResultVar) (k:KV) (e:Ex) (fr:FF) (s:QW):Ans:=Ex.rec (motive:=fun _=>Ans) (az0 P rs fr s k) (fun _=>none) (az0 P rs fr s k) e
noncomputable def mkO (l:List FV) (j:Nat) (t:FV):FV:=List.rec (motive:=fun _=>Nat→FV) (fun _=>t) (fun v _ ih j=>ab8 (p4 j) v (ih (Nat.succ j))) l j
noncomputable def aR5 (nt:Nat):FV:=Nat.rec (motive:=fun _=>FV) .e (fun j ih=>ab8 (p4 j) .e ih) nt
noncomputable def aB0 (nt:Nat) (l:List FV):FV:=mkO l 0 (aR5 nt)
noncomputable def aM7 (l:List FV):Nat:=List.rec (motive:=fun _=>Nat) 0 (fun _ _ ih=>Nat.succ ih) l
noncomputable def aTm (P:Program) (ih:IH) (z:Code×Nat×List ResultVar) (args:List FV) (s:QW) (k:KV):Ans :=
 iff (Nat.ble (aM7 args) z.2.1) (QW.rec (motive:=fun _=>Ans) (fun m nx base lg wl=>ih none z.1 ⟨aB0 z.2.1 args,z.2.1,[]⟩ ⟨m,nx,dbl nx,[],[]⟩ (aO0 P z.2.2 (bkS base lg wl k))) s)
noncomputable def adv (P:Program) (sm:SMF) (ih:IH) (f:Nat) (args:List FV) (s:QW) (k:KV):Ans :=
 Option.rec (motive:=fun _=>Ans) (opt (FT P f) fun z=>aTm P ih z args s k) (fun h=>h args s k) (sm f)
noncomputable def au9 (ps:List Nat) (vs:List FV) (fr:FF) (s:QW) (k:KF):Ans:=match ps,vs with
 | [],[]=>k fr s
 | p :: ps,v :: vs=>avb (some p) fr v s fun fr s=>au9 ps vs fr s k
 | _,_=>none
noncomputable def aNy (l:Nat) (k:KV) (e:Ex) (_:FF) (s:QW):Ans:=match e with
 | .normal=>wlC l .ready s fun s=>k (.b true) s
 | e=>wlC l (.done e) s fun s=>k (.b false) s
noncomputable def aTr (ih:IH) (l:Nat) (args:List FV) (s:QW) (k:KV):Ans :=
 rlC l s fun fr ps asg body _ s=>au9 ps args fr s fun fr s=>ih (some l) asg fr s fun e fr s=>match e with
  | .normal=>rlC l s fun _ _ _ _ st s=>match st with
   | .ready=>wlC l .busy s fun s=>ih (some l) body fr s (aNy l k)
   | _=>none
  | _=>none
noncomputable def aS5 (fr:FF):FF:=FF.rec (motive:=fun _=>FF) (fun t nt _=>⟨t,nt,[]⟩) fr
noncomputable def aX0 (d:Nat) (fr:FF):FF:=FF.rec (motive:=fun _=>FF) (fun t nt m=>⟨t,nt,d :: m⟩) fr
noncomputable def aZt (rnd:Option Nat) (fr:FF) (ps:List Nat) (asg body:Code) (s:QW) (k:Nat→KF):Ans:=match rnd with
 | some l=>rlC l s fun _ _ _ _ _ s=>a9h false (.loop (aS5 fr) ps asg body .ready) s fun _ i s=>k i fr s
 | none=>a9h false .dfr s fun _ d s=>a9h false (.loop (aS5 fr) ps asg body .ready) s fun _ i s=>k i (aX0 d fr) s
noncomputable def aS2 (i:Nat) (s:QW) (k:Ex→QW→Ans):Ans:=rlC i s fun _ _ _ _ st s=>match st with
 | .ready=>wlC i .exhausted s fun s=>k .normal s
 | .done e=>wlC i .exhausted s fun s=>k e s
 | _=>none
abbrev CT:=Program→SMF→IH→Option Nat→FF→QW→KE→Ans
noncomputable def aRr (b:Code) (ih:IH) (rnd:Option Nat) (k:KE) (e:Ex) (fr:FF) (s:QW):Ans:=Ex.rec (motive:=fun _=>Ans) (ih rnd b fr s k) (fun j=>k (.exit j) fr s) (k .ret fr s) e
noncomputable def jSeq (a b:Code):CT:=fun _ _ ih rnd fr s k=>ih rnd a fr s (aRr b ih rnd k)
noncomputable def aQ1 (x:Operand) (a b:Code):CT:=fun _ _ ih rnd fr s k=>FV.rec (motive:=fun _=>Ans→Ans→Ans) (fun _ _=>fun _ _=>none) (fun v y n=>Bool.rec (motive:=fun _=>Ans) n y v) (fun _ _ _=>fun _ _=>none) (fun _ _ _ _ _=>fun _ _=>none) (fun _=>fun _ _=>none) (fun _=>fun _ _=>none) (fun _ _ _=>fun _ _=>none) (fun _ _ _=>fun _ _=>none) (fun _ _=>none) (fun _ _ _ _ _ _ _ _ _ _=>fun _ _=>none) (oV x fr) (ih rnd a fr s k) (ih rnd b fr s k)
noncomputable def b4u (i:Nat) (k:KE) (e:Ex) (fr:FF) (s:QW):Ans:=Ex.rec (motive:=fun _=>Ans) (k .normal fr s) (fun j=>Bool.rec (motive:=fun _=>Ans) (k (.exit j) fr s) (k .normal fr s) (Nat.beq j i)) (k .ret fr s) e
noncomputable def aWl (i:Nat) (a:Code):CT:=fun _ _ ih rnd fr s k=>ih rnd a fr s (b4u i k)
noncomputable def b3h (a:Code):CT:=fun _ _ ih rnd fr s k=>ih rnd a fr s (aRr (.loop a) ih rnd k)
noncomputable def aQ0 (_:Nat) (ops:Array Oper) (draw:Bool):CT:=fun P sm ih _ fr s k=>aZ7 draw ⟨P,adv P sm ih,aTr ih,ops.toList⟩ fr s (k .normal)
noncomputable def rgA (v:AV) (ps:List Nat) (asg body:Code) (P:Program) (sm:SMF) (ih:IH) (rnd:Option Nat) (fr:FF) (s:QW) (k:KE):Ans:=match v with
 | .f fn a cp=>aZt rnd fr ps asg body s fun i fr s=>adv P sm ih fn (aor a (.o (.y i) :: aor cp [])) s fun _ s=>aS2 i s fun e s=>k e fr s
 | _=>none
noncomputable def aza (g:Operand) (ps:Array Nat) (asg body:Code):CT:=fun P sm ih rnd fr s k=>match oV g fr with
 | .o v=>rgA v ps.toList asg body P sm ih rnd fr s k
 | _=>none
noncomputable def a5j (P:Program) (sm:SMF) (q:Nat):IH :=
 Nat.rec (motive:=fun _=>IH) (fun _ _ _ _ _=>none) (fun _ ih rnd c fr s k =>
  Code.rec (motive:=fun _=>CT) (fun _ _ _ _ fr s k=>k .normal fr s) aQ0 (fun a b _ _=>jSeq a b) (fun c a b _ _=>aQ1 c a b) (fun i a _=>aWl i a) (fun a _=>b3h a) (fun g ps a b _ _=>aza g ps a b) (fun i _ _ _ _ fr s k=>k (.exit i) fr s)
   (fun _ _ _ _ _ _ _ _ _=>none) (fun _ _ _ _ _ fr s k=>k .normal fr s) (fun _ _ _ _ _ _ _ _=>none) (fun _ _ _ _ fr s k=>k .ret fr s) (fun _ _ _ _ _ _ _ _=>none) c P sm ih rnd fr s k) q
noncomputable def endK (v:FV) (s:QW):Ans:=some (v,s)
noncomputable def evF (P:Program) (sm:SMF) (q k:Nat) (args:List FV) (s:QW):Ans:=adv P sm (a5j P sm q) k args s endK
end V
end Go.CE
namespace Go.CE
namespace V
variable [Sym] [a0n]
theorem apa:∀ (l:List FV) (o j:Nat),a1d (p4 j) (mkT l o)=if o≤j then (l[j - o]?).getD .e else .e
 | [],o,j=>by show a1d (p4 j) .e=_;rw [adf];simp
 | v :: l,o,j=>by
  show a1d (p4 j) (ab8 (p4 o) v (mkT l (o+1)))=_
  by_cases h:j=o
  ·subst h;rw [arq];simp
  ·rw [afs _ _ _ _ (aFo h),apa l (o+1) j]
   by_cases h1:o+1≤j
   ·rw [if_pos h1,if_pos (by omega)]
    rw [show j - o=(j - (o+1))+1 by omega]
    rfl
   ·rw [if_neg h1,if_neg (by omega)]
theorem a0u (j k:Nat) (v t:FV):a1d (p4 j) (ab8 (p4 k) v t)=if j=k then v else a1d (p4 j) t:=by
 by_cases h:j=k
 ·subst h;rw [if_pos rfl,arq]
 ·rw [if_neg h,afs _ _ _ _ (aFo h)]
theorem aru (j k:Nat) (v:FB) (t:FM):getM (p4 j) (adx (p4 k) v t)=if j=k then v else getM (p4 j) t:=by
 by_cases h:j=k
 ·subst h;rw [if_pos rfl,ars]
 ·rw [if_neg h,afu _ _ _ _ (aFo h)]
theorem aps (k:IntKind):∀ n:Int,a6g (ofI k n)=.i k n
 | .ofNat _=>rfl
 | .negSucc _=>rfl
theorem ayc (k:IntKind):∀ n:Int,a4l (ofI k n)
 | .ofNat _=>trivial
 | .negSucc _=>rfl
theorem aBa (v:AV) (h:sc v=true):a6g (of0 v)=v:=by
 cases v with
 | i k n=>exact aps k n
 | p a=>rcases a with _ | ⟨k,o⟩<;>rfl
 | sl a n c=>rcases a with _ | ⟨k,o⟩<;>rfl
 | _=>first | rfl | (simp [sc] at h)
theorem aKi (v:AV) (h:sc v=true):a4l (of0 v):=by
 cases v with
 | i k n=>exact ayc k n
 | p a=>rcases a with _ | ⟨k,o⟩<;>first | trivial | rfl
 | sl a n c=>rcases a with _ | ⟨k,o⟩<;>first | trivial | rfl
 | _=>first | trivial | rfl | (simp [sc] at h)
theorem anb:∀ {v:FV},a4l v→aa5 v=a6g v∧okG v
 | .i _ _,h=>⟨rfl,h⟩
 | .b _,h=>⟨rfl,h⟩
 | .p _ _ _,h=>⟨rfl,h⟩
 | .s _ _ _ _ _,h=>⟨rfl,h⟩
 | .o _,h=>⟨rfl,h⟩
theorem ana:∀ {v:FV},okG v→a2t v=aa5 v∧okV v
 | .i _ _,h=>⟨rfl,h⟩
 | .b _,h=>⟨rfl,h⟩
 | .p _ _ _,h=>⟨rfl,h⟩
 | .s _ _ _ _ _,h=>⟨rfl,h⟩
 | .o _,h=>⟨rfl,h⟩
 | .w _,h=>⟨rfl,h⟩
 | .g _ _,h=>⟨rfl,h⟩
 | .e,h=>⟨rfl,h⟩
theorem ac7 {v:FV} (h:a4l v):a2t v=a6g v∧okV v:=by
 have h1:=anb h
 have h2:=ana h1.2
 exact ⟨h2.1.trans h1.1,h2.2⟩
theorem ac5:∀ {l:List AV},a1f l=true→∀ v∈l,sc v=true
 | [],_,v,hv=>by simp at hv
 | x :: l,h,v,hv=>by
  unfold a1f at h
  cases hx:sc x with
  | false=>simp [hx] at h
  | true =>
   simp [hx] at h
   rcases List.mem_cons.mp hv with rfl | hv
   ·exact hx
   ·exact ac5 h v hv
theorem a9j:∀ {l:List AV},(∀ v∈l,sc v=true)→a1f l=true
 | [],_=>rfl
 | x :: l,h=>by
  unfold a1f
  rw [h x (by simp)]
  exact a9j fun v hv=>h v (by simp [hv])
theorem a0q (t:FV) (o n:Nat):(a07 t o n).length=n:=by simp [a07]
theorem a0m (t:FV) (o n j:Nat):(a07 t o n)[j]? = if j < n then some (a6g (a1d (p4 (o+j)) t)) else none:=by
 unfold a07
 by_cases h:j < n
 ·rw [if_pos h];simp [h]
 ·rw [if_neg h];simp;omega
theorem a97 {t:FV} {n:Nat} (h:a3j t n):a1f (a07 t 0 n)=true:=a9j fun v hv=>by
 unfold a07 at hv
 obtain ⟨j,hj,rfl⟩:=List.mem_map.mp hv
 rw [Nat.zero_add]
 exact ao0 (h j (List.mem_range.mp hj))
theorem auv {t u:FV} {n:Nat} (h:∀ j,j < n→a1d (p4 j) t=a1d (p4 j) u):a07 t 0 n=a07 u 0 n:=by
 apply List.ext_getElem?
 intro j
 rw [a0m,a0m]
 by_cases hj:j < n
 ·rw [if_pos hj,if_pos hj,Nat.zero_add,h j hj]
 ·rw [if_neg hj,if_neg hj]
theorem a1g (l:List AV) (h:a1f l=true):a07 (mkT (l.map of0) 0) 0 l.length=l∧a3j (mkT (l.map of0) 0) l.length:=by
 have hg:∀ j (hj:j < l.length),a1d (p4 j) (mkT (l.map of0) 0)=of0 l[j]:=fun j hj=>by
  rw [apa];simp [hj]
 constructor
 ·apply List.ext_getElem
  ·simp [a07]
  ·intro j h1 h2
   simp only [a07,List.getElem_map,List.getElem_range,Nat.zero_add]
   rw [hg j h2]
   exact aBa _ (ac5 h _ (List.getElem_mem h2))
 ·intro j hj
  rw [hg j hj]
  exact aKi _ (ac5 h _ (List.getElem_mem hj))
theorem a5g (v:AV) (h:sc v=true):aa5 (of0 v)=v∧okG (of0 v):=by
 have:=anb (aKi v h)
 exact ⟨this.1.trans (aBa v h),this.2⟩
theorem apt (v:AV):aa5 (ofG v)=v∧okG (ofG v):=by
 cases v with
 | g cs =>
  cases h:a1f cs with
  | true =>
   have hc:=a1g cs h
   have e:ofG (.g cs)=.g (mkT (cs.map of0) 0) cs.length:=by simp only [ofG,h]
   rw [e]
   exact ⟨by show AV.g _=_;rw [hc.1],hc.2⟩
  | false =>
   have e:ofG (.g cs)=.w (.g cs):=by simp only [ofG,h]
   rw [e]
   exact ⟨rfl,rfl⟩
 | t vs=>exact ⟨rfl,rfl⟩
 | u=>exact ⟨rfl,trivial⟩
 | bad=>exact ⟨rfl,rfl⟩
 | b x0=>exact a5g (.b x0) rfl
 | i x0 x1=>exact a5g (.i x0 x1) rfl
 | s x0=>exact a5g (.s x0) rfl
 | p x0=>exact a5g (.p x0) rfl
 | sl x0 x1 x2=>exact a5g (.sl x0 x1 x2) rfl
 | se=>exact a5g (.se) rfl
 | m x0=>exact a5g (.m x0) rfl
 | f x0 x1 x2=>exact a5g (.f x0 x1 x2) rfl
 | y x0=>exact a5g (.y x0) rfl
 | nf=>exact a5g (.nf) rfl
 | x x0 x1=>exact a5g (.x x0 x1) rfl
theorem aw8 (l:List FV) (h:∀ v∈l,okG v):a2t (.t (mkT l 0) l.length)=.t (l.map aa5)∧okV (.t (mkT l 0) l.length):=by
 have hg:∀ j (hj:j < l.length),a1d (p4 j) (mkT l 0)=l[j]:=fun j hj=>by
  rw [apa];simp [hj]
 constructor
 ·show AV.t _=AV.t _
  congr 1
  apply List.ext_getElem
  ·simp
  ·intro j h1 h2
   simp only [List.getElem_map,List.getElem_range]
   rw [hg j (by simpa using h2)]
 ·intro j hj
  rw [hg j hj]
  exact h _ (List.getElem_mem hj)
theorem ak8 (v:AV):a2t (ofV v)=v∧okV (ofV v):=by
 have gen:∀ v:AV,ofV v=ofG v→a2t (ofV v)=v∧okV (ofV v):=fun v e=>by
  rw [e]
  have h:=apt v
  have h2:=ana h.2
  exact ⟨h2.1.trans h.1,h2.2⟩
 cases v with
 | t vs =>
  have:=aw8 (vs.map ofG) (fun v hv=>by obtain ⟨a,_,rfl⟩:=List.mem_map.mp hv;exact (apt a).2)
  rw [List.length_map] at this
  refine ⟨this.1.trans ?_,this.2⟩
  rw [List.map_map]
  have e:(aa5 ∘ ofG)=id:=funext fun a=>(apt a).1
  rw [e,List.map_id]
 | _=>exact gen _ rfl
def Ok {α β:Type} (B:Nat) (R:α→β→Prop) (x:(β→QW→Ans)→Ans) (y:Option (α×St)):Prop :=
 ∀ k r,x k=some r→∃ b f a s,y=some (a,s)∧R a b∧RS B s f∧k b f=some r
def RV (a:AV) (v:FV):Prop:=a=a2t v∧okV v
theorem ax3 (v:AV):RV v (ofV v):=⟨(ak8 v).1.symm,(ak8 v).2⟩
theorem ait {v:FV} (h:a4l v):RV (a6g v) v:=⟨(ac7 h).1.symm,(ac7 h).2⟩
section
variable {α β γ δ:Type} {B:Nat} {R:α→β→Prop} {S:γ→δ→Prop}
theorem Ok.ret {b:β} {f:QW} {a:α} {s:St} (h:R a b) (hs:RS B s f):Ok B R (fun k=>k b f) (some (a,s)):=fun _ _ hk=>⟨b,f,a,s,rfl,h,hs,hk⟩
theorem Ok.none {y:Option (α×St)}:Ok B R (fun _=>none) y:=fun _ _ hk=>by cases hk
theorem Ok.bnd {x:(β→QW→Ans)→Ans} {y:X α} {s:St} {g:β→QW→(δ→QW→Ans)→Ans} {h:α→X γ} (hx:Ok B R x (y s))
  (hg:∀ b f a s,R a b→RS B s f→Ok B S (g b f) (h a s)):Ok B S (fun k=>x fun b f=>g b f k) (CE.bnd y h s):=fun k r hk=>by
 obtain ⟨b,f,a,s',e,h1,h2,h3⟩:=hx _ r hk
 obtain ⟨d,f',c,s'',e',h4,h5,h6⟩:=hg b f a s' h1 h2 k r h3
 refine ⟨d,f',c,s'',?_,h4,h5,h6⟩
 unfold CE.bnd;rw [e];exact e'
theorem Ok.eq {x:(β→QW→Ans)→Ans} {y z:Option (α×St)} (h:Ok B R x y) (e:y=z):Ok B R x z:=e ▸ h
theorem Ok.iff {x:(β→QW→Ans)→Ans} {y:Option (α×St)} {c:Bool} (h:c=true→Ok B R x y):Ok B R (fun k=>V.iff c (x k)) y:=by
 cases c with
 | false=>exact Ok.none
 | true=>exact h rfl
theorem Ok.opt {ε:Type} {o:Option ε} {x:ε→(β→QW→Ans)→Ans} {y:Option (α×St)} (h:∀ a,o=some a→Ok B R (x a) y):Ok B R (fun k=>V.opt o fun a=>x a k) y:=by
 cases o with
 | none=>exact Ok.none
 | some a=>exact h a rfl
theorem Ok.chk {x:(β→QW→Ans)→Ans} {c:Bool} {h:Unit→X α} {s:St} (hc:c=true) (hx:Ok B R x (h () s)):Ok B R x (CE.bnd (CE.chk c) h s):=by
 rw [hc];exact hx
theorem Ok.lift {x:(β→QW→Ans)→Ans} {o:Option γ} {c:γ} {h:γ→X α} {s:St} (hc:o=some c) (hx:Ok B R x (h c s)):Ok B R x (CE.bnd (CE.lift o) h s):=by
 rw [hc];exact hx
theorem Ok.mono {x:(β→QW→Ans)→Ans} {y:Option (α×St)} {R':α→β→Prop} (h:Ok B R x y) (hr:∀ a b,R a b→R' a b):Ok B R' x y:=fun k r hk=>by
 obtain ⟨b,f,a,s,e,h1,h2,h3⟩:=h k r hk
 exact ⟨b,f,a,s,e,hr _ _ h1,h2,h3⟩
end
theorem akp (f:Nat→Ans) (n:Nat):strict f n=f n:=by cases n<;>rfl
end V
end Go.CE
namespace Go.CE
namespace V
variable [Sym] [a0n]
theorem ali {α:Type}:∀ (l vs:List α),vs.length≤l.length→∃ r,over l vs=some r
 | l,[],_=>⟨l,by cases l<;>rfl⟩
 | [],_ :: _,h=>by simp at h
 | _ :: l,v :: vs,h=>by
  obtain ⟨r,e⟩:=ali l vs (by simpa using h)
  exact ⟨v :: r,by unfold over;rw [e]⟩
theorem ah6 {α:Type}:∀ (l:List α) (o:Nat) (vs:List α),o+vs.length≤l.length→∃ r,setAt l o vs=some r
 | l,0,vs,h=>by
  obtain ⟨r,e⟩:=ali l vs (by omega)
  exact ⟨r,by cases l<;>(unfold setAt;exact e)⟩
 | [],o+1,vs,h=>by simp at h
 | x :: l,o+1,vs,h=>by
  obtain ⟨r,e⟩:=ah6 l o vs (by simp at h;omega)
  exact ⟨x :: r,by unfold setAt;rw [e]⟩
theorem azr (t:FV) (o:Nat):∀ (n j:Nat),a1d (p4 j) (exT t o n)=if j < n then a1d (p4 (o+j)) t else .e
 | 0,j=>by show a1d (p4 j) .e=_;rw [adf,if_neg (by omega)]
 | n+1,j=>by
  show a1d (p4 j) (ab8 (p4 n) (a1d (p4 (o+n)) t) (exT t o n))=_
  rw [a0u,azr t o n j]
  by_cases h:j=n
  ·subst h;rw [if_pos rfl,if_pos (by omega)]
  ·rw [if_neg h]
   by_cases h2:j < n
   ·rw [if_pos h2,if_pos (by omega)]
   ·rw [if_neg h2,if_neg (by omega)]
theorem arp (t:FV) (o n j:Nat) (h:j < n):a1d (p4 j) (aCo t o n)=a1d (p4 (o+j)) t:=by
 unfold aCo
 cases e:Nat.beq o 0 with
 | false=>show a1d (p4 j) (exT t o n)=_;rw [azr,if_pos h]
 | true=>have:=a92 e;subst this;show a1d (p4 j) t=_;rw [Nat.zero_add]
theorem afv (t v:FV) (o:Nat):∀ (n j:Nat),a1d (p4 j) (ovT t v o n)=if o≤j∧j < o+n then a1d (p4 (j - o)) v else a1d (p4 j) t
 | 0,j=>by show a1d (p4 j) t=_;rw [if_neg (by omega)]
 | n+1,j=>by
  show a1d (p4 j) (ab8 (p4 (o+n)) (a1d (p4 n) v) (ovT t v o n))=_
  rw [a0u,afv t v o n j]
  by_cases h:j=o+n
  ·subst h;rw [if_pos rfl,if_pos (by omega),show o+n - o=n by omega]
  ·rw [if_neg h]
   by_cases h2:o≤j∧j < o+n
   ·rw [if_pos h2,if_pos (by omega)]
   ·rw [if_neg h2,if_neg (by omega)]
theorem ajo (t v:FV) (o n N j:Nat) (h:j < N):a1d (p4 j) (aOz t v o n N)=if o≤j∧j < o+n then a1d (p4 (j - o)) v else a1d (p4 j) t:=by
 unfold aOz
 cases e:Nat.beq o 0 with
 | false=>exact afv t v o n j
 | true =>
  have:=a92 e;subst this
  cases e2:Nat.beq n N with
  | false=>exact afv t v 0 n j
  | true=>have:=a92 e2;subst this;show a1d (p4 j) v=_;rw [if_pos (by omega),Nat.sub_zero]
theorem abz {t:FV} {N o n:Nat} (h:o+n≤N):cut (a07 t 0 N) o n=some (a07 t o n):=by
 have e:((a07 t 0 N).drop o).take n=a07 t o n:=by
  apply List.ext_getElem?
  intro j
  rw [List.getElem?_take]
  by_cases hj:j < n
  ·rw [if_pos hj,List.getElem?_drop,a0m,a0m,if_pos (by omega),if_pos hj];simp
  ·rw [if_neg hj,a0m,if_neg hj]
 unfold cut
 simp only [e,a0q,aed]
theorem amx {t:FV} {o n:Nat}:a07 (aCo t o n) 0 n=a07 t o n:=by
 apply List.ext_getElem?
 intro j
 rw [a0m,a0m]
 by_cases hj:j < n
 ·rw [if_pos hj,if_pos hj,Nat.zero_add,arp _ _ _ _ hj]
 ·rw [if_neg hj,if_neg hj]
theorem aKd {t:FV} {o n N:Nat} (h:a3j t N) (hn:o+n≤N):a3j (aCo t o n) n:=fun j hj=>by
 rw [arp _ _ _ _ hj];exact h _ (by omega)
theorem aap {t v:FV} {o n N:Nat} (h:o+n≤N):setAt (a07 t 0 N) o (a07 v 0 n)=some (a07 (aOz t v o n N) 0 N):=by
 obtain ⟨r,e⟩:=ah6 (a07 t 0 N) o (a07 v 0 n) (by rw [a0q,a0q];exact h)
 rw [e]
 congr 1
 apply List.ext_getElem?
 intro j
 rw [a7t e j,a0q,a0m,a0m,a0m]
 by_cases hj:j < N
 ·rw [if_pos hj,if_pos hj]
  simp only [Nat.zero_add]
  rw [ajo _ _ _ _ _ _ hj]
  by_cases h2:o≤j∧j < o+n
  ·rw [if_pos h2,if_pos h2,if_pos (by omega)]
  ·rw [if_neg h2,if_neg h2]
 ·rw [if_neg hj,if_neg hj,if_neg (by omega)]
theorem aKg {t v:FV} {o n N:Nat} (h:a3j t N) (hv:a3j v n) (hn:o+n≤N):a3j (aOz t v o n N) N:=fun j hj=>by
 rw [ajo _ _ _ _ _ _ hj]
 by_cases h2:o≤j∧j < o+n
 ·rw [if_pos h2];exact hv _ (by omega)
 ·rw [if_neg h2];exact h _ hj
theorem cells_one (v:FV):a07 (ab8 (p4 0) v .e) 0 1 = [a6g v]:=by
 apply List.ext_getElem?
 intro j
 rw [a0m]
 by_cases hj:j < 1
 ·have:j=0:=by omega
  subst this
  rw [if_pos hj,Nat.zero_add,a0u,if_pos rfl];rfl
 ·rw [if_neg hj]
  cases j with
  | zero=>omega
  | succ j=>rfl
theorem ok_one {v:FV} (h:a4l v):a3j (ab8 (p4 0) v .e) 1:=fun j hj=>by
 have:j=0:=by omega
 subst this
 rw [a0u,if_pos rfl];exact h
theorem akt {t v:FV} {o N:Nat} (h:o+1≤N):setAt (a07 t 0 N) o [a6g v]=some (a07 (ab8 (p4 o) v t) 0 N):=by
 rw [← cells_one v,aap h]
 congr 1
 apply auv
 intro j hj
 rw [ajo _ _ _ _ _ _ hj,a0u j o]
 by_cases h2:j=o
 ·subst h2;rw [if_pos (by omega),Nat.sub_self,a0u,if_pos rfl,if_pos rfl]
 ·rw [if_neg (by omega),if_neg h2]
theorem aKf {t v:FV} {o N:Nat} (h:a3j t N) (hv:a4l v):a3j (ab8 (p4 o) v t) N:=fun j hj=>by
 rw [a0u]
 by_cases h2:j=o
 ·rw [if_pos h2];exact hv
 ·rw [if_neg h2];exact h j hj
theorem _root_.Go.CE.CL.log {B:Nat} {l q:List LE} (h:CL B l q) (e:LE):CL B (e :: l) (a9y B e.k e q):=fun x hx=>by
 unfold a9y
 cases hb:Nat.ble B e.k with
 | true =>
  rcases List.mem_cons.mp hx with rfl | hx
  ·exact .inl (a6e hb)
  ·exact h x hx
 | false =>
  rcases List.mem_cons.mp hx with rfl | hx
  ·exact .inr (List.mem_cons_self)
  ·rcases h x hx with h1 | h1
   ·exact .inl h1
   ·exact .inr (List.mem_cons_of_mem _ h1)
theorem _root_.Go.CE.CL.new {B:Nat} {l q:List LE} (h:CL B l q) (e:LE) (he:B≤e.k):CL B (e :: l) q:=fun x hx=>by
 rcases List.mem_cons.mp hx with rfl | hx
 ·exact .inl he
 ·exact h x hx
section
variable {B:Nat} {m:Tr AB} {n n':Nat} {l w:List LE} {fm:FM} {nx base:Nat} {lg wl:List LE}
theorem aga {l:List LE} {e:LE} {c:Nat} (he:e.k < c) (h:∀ e∈l,e.k < c):∀ x∈e :: l,x.k < c:=fun x hx=>by
 rcases List.mem_cons.mp hx with rfl | hx
 ·exact he
 ·exact h x hx
theorem _root_.Go.CE.RS.log (hs:RS B ⟨m,n,l,w⟩ ⟨fm,nx,base,lg,wl⟩) (e:LE) (he:e.k < 2 * n):RS B ⟨m,n,e :: l,w⟩ ⟨fm,nx,base,a9y base e.k e lg,wl⟩:=by
 have hb:base=B:=hs.base
 subst hb
 exact ⟨hs.nx,rfl,hs.low,hs.lg.log e,hs.wl,hs.m,aga he hs.bd,hs.bw,hs.mb⟩
theorem mem_set (hm:∀ k,RB (m.get k) (getM (p4 k) fm)) (i:Nat) {x:Option AB} {y:FB} (h:RB x y):∀ k,RB ((m.set i x).get k) (getM (p4 k) (adx (p4 i) y fm)):=fun k=>by
 rw [Tr.a0u,aru]
 by_cases h1:k=i
 ·rw [if_pos h1,if_pos h1];exact h
 ·rw [if_neg h1,if_neg h1];exact hm k
theorem aM2 {c:Nat} (hm:∀ k x,m.get k=some x→k < c) {i:Nat} (hi:i < c) (v:Option AB):∀ k x,(m.set i v).get k=some x→k < c:=fun k x h=>by
 rw [Tr.a0u] at h
 by_cases h1:k=i
 ·subst h1;exact hi
 ·rw [if_neg h1] at h;exact hm k x h
theorem _root_.Go.CE.RS.write (hs:RS B ⟨m,n,l,w⟩ ⟨fm,nx,base,lg,wl⟩) (e:LE) (he:e.k < 2 * n) {x:Option AB} {y:FB} (h:RB x y):RS B ⟨m.set e.k x,n,e :: l,e :: w⟩ ⟨adx (p4 e.k) y fm,nx,base,a9y base e.k e lg,a9y base e.k e wl⟩:=by
 have hb:base=B:=hs.base
 subst hb
 exact ⟨hs.nx,rfl,hs.low,hs.lg.log e,hs.wl.log e,mem_set hs.m _ h,aga he hs.bd,aga he hs.bw,aM2 hs.mb he _⟩
end
variable {B:Nat} {s:St} {f:QW}
theorem aV5 (hs:RS B s f) (i o:Nat):Ok B (fun l v=>l = [a6g v]∧a4l v) (b2h (p4 i) i o f) (rdK i o 1 s):=fun k r hk=>by
 obtain ⟨m,n,l,w⟩:=s
 obtain ⟨fm,nx,base,lg,wl⟩:=f
 have hm:=hs.m i
 dsimp only at hm
 change b2g fm nx base lg wl (p4 i) i o k=some r at hk
 unfold b2g at hk
 unfold rdK
 dsimp only
 generalize getM (p4 i) fm=b at hm hk
 generalize hmi:m.get i=a at hm
 cases hm with
 | cells t N T hok =>
  change V.iff (Nat.ble (o+1) N) (k (a1d (p4 o) t) ⟨fm,nx,base,a9y base i ⟨i,o,1,false⟩ lg,wl⟩)=some r at hk
  cases hb:Nat.ble (o+1) N with
  | false=>rw [hb] at hk;cases hk
  | true =>
   rw [hb] at hk
   dsimp only
   rw [abz (a6e hb)]
   refine ⟨_,_,_,_,rfl,?_,hs.log ⟨i,o,1,false⟩ (hs.mb i _ hmi),hk⟩
   refine ⟨?_,hok o (a6e hb)⟩
   simp [a07]
 | _=>cases hk
theorem a7v (hs:RS B s f) (i o c:Nat):Ok B (fun l v => ∃ t,v=.g t c∧l=a07 t 0 c∧a3j t c) (aiv (p4 i) i o c f) (rdK i o c s):=fun k r hk=>by
 obtain ⟨m,n,l,w⟩:=s
 obtain ⟨fm,nx,base,lg,wl⟩:=f
 have hm:=hs.m i
 dsimp only at hm
 change b2d fm nx base lg wl (p4 i) i o c k=some r at hk
 unfold b2d at hk
 unfold rdK
 dsimp only
 generalize getM (p4 i) fm=b at hm hk
 generalize hmi:m.get i=a at hm
 cases hm with
 | cells t N T hok =>
  change V.iff (Nat.ble (o+c) N) (k (.g (aCo t o c) c) ⟨fm,nx,base,a9y base i ⟨i,o,c,false⟩ lg,wl⟩)=some r at hk
  cases hb:Nat.ble (o+c) N with
  | false=>rw [hb] at hk;cases hk
  | true =>
   rw [hb] at hk
   dsimp only
   rw [abz (a6e hb)]
   exact ⟨_,_,_,_,rfl,⟨_,rfl,amx.symm,aKd hok (a6e hb)⟩,hs.log ⟨i,o,c,false⟩ (hs.mb i _ hmi),hk⟩
 | _=>cases hk
def OkS (B:Nat) (x:(QW→Ans)→Ans) (y:Option (Unit×St)):Prop:=∀ k r,x k=some r→∃ f s,y=some ((),s)∧RS B s f∧k f=some r
theorem OkS.bnd {α β:Type} {R:α→β→Prop} {x:(QW→Ans)→Ans} {y:X Unit} {g:QW→(β→QW→Ans)→Ans} {h:Unit→X α} (hx:OkS B x (y s))
  (hg:∀ f s,RS B s f→Ok B R (g f) (h () s)):Ok B R (fun k=>x fun f=>g f k) (CE.bnd y h s):=fun k r hk=>by
 obtain ⟨f,s',e,h1,h2⟩:=hx _ r hk
 obtain ⟨d,f',c,s'',e',h4,h5,h6⟩:=hg f s' h1 k r h2
 refine ⟨d,f',c,s'',?_,h4,h5,h6⟩
 unfold CE.bnd;rw [e];exact e'
theorem aV1 (hs:RS B s f) (i o:Nat) {v:FV} (hv:a4l v):OkS B (wr1C (p4 i) i o v f) (wrK i o [a6g v] s):=fun k r hk=>by
 obtain ⟨m,n,l,w⟩:=s
 obtain ⟨fm,nx,base,lg,wl⟩:=f
 have hm:=hs.m i
 dsimp only at hm
 change b0y fm nx base lg wl (p4 i) i o v k=some r at hk
 unfold b0y at hk
 unfold wrK
 dsimp only
 cases hro:Nat.ble 2048 i with
 | false=>rw [hro] at hk;cases hk
 | true =>
  rw [hro] at hk
  have b3n:Nat.ble roB i=true:=hro
  rw [b3n]
  generalize getM (p4 i) fm=b at hm hk
  generalize hmi:m.get i=a at hm
  cases hm with
  | cells t N T hok =>
   change V.iff (Nat.ble (o+1) N) (k ⟨adx (p4 i) (.cells (ab8 (p4 o) v t) N T) fm,nx,base,a9y base i ⟨i,o,1,false⟩ lg,a9y base i ⟨i,o,1,false⟩ wl⟩)=some r at hk
   cases hb:Nat.ble (o+1) N with
   | false=>rw [hb] at hk;cases hk
   | true =>
    rw [hb] at hk
    dsimp only
    rw [akt (a6e hb)]
    refine ⟨_,_,rfl,hs.write ⟨i,o,1,false⟩ (hs.mb i _ hmi) (.cells _ N T (aKf hok hv)),hk⟩
  | _=>cases hk
theorem ay6 (hs:RS B s f) (i o c:Nat) {v:FV} (hv:a3j v c):OkS B (aMu (p4 i) i o v c f) (wrK i o (a07 v 0 c) s):=fun k r hk=>by
 obtain ⟨m,n,l,w⟩:=s
 obtain ⟨fm,nx,base,lg,wl⟩:=f
 have hm:=hs.m i
 dsimp only at hm
 change b0w fm nx base lg wl (p4 i) i o v c k=some r at hk
 unfold b0w at hk
 unfold wrK
 dsimp only
 cases hro:Nat.ble 2048 i with
 | false=>rw [hro] at hk;cases hk
 | true =>
  rw [hro] at hk
  have b3n:Nat.ble roB i=true:=hro
  rw [b3n]
  generalize getM (p4 i) fm=b at hm hk
  generalize hmi:m.get i=a at hm
  cases hm with
  | cells t N T hok =>
   change V.iff (Nat.ble (o+c) N) (k ⟨adx (p4 i) (.cells (aOz t v o c N) N T) fm,nx,base,a9y base i ⟨i,o,c,false⟩ lg,a9y base i ⟨i,o,c,false⟩ wl⟩)=some r at hk
   cases hb:Nat.ble (o+c) N with
   | false=>rw [hb] at hk;cases hk
   | true =>
    rw [hb] at hk
    dsimp only
    rw [aap (a6e hb),a0q]
    refine ⟨_,_,rfl,hs.write ⟨i,o,c,false⟩ (hs.mb i _ hmi) (.cells _ N T (aKg hok hv (a6e hb))),hk⟩
  | _=>cases hk
theorem ayd (hs:RS B s f) (g:Bool) {x:AB} {y:FB} (h:RB (some x) y):∀ (k:P4→Nat→QW→Ans) r,a9h g y f k=some r→∃ i f' s',a4o g x s=some (i,s')∧RS B s' f'∧k (p4 i) i f' = some r:=fun k r hk=>by
 obtain ⟨m,n,l,w⟩:=s
 obtain ⟨fm,nx,base,lg,wl⟩:=f
 change nwa fm nx base lg wl g y k=some r at hk
 unfold nwa at hk
 rw [akp,akp] at hk
 have hn:n=nx:=hs.nx
 subst hn
 have hid:Bool.rec (motive:=fun _=>Nat) (Nat.mul 2 n) (Nat.succ (Nat.mul 2 n)) g=a2b g n:=by cases g<;>rfl
 rw [hid] at hk
 refine ⟨a2b g n,_,_,rfl,?_,hk⟩
 have hb:base=B:=hs.base
 subst hb
 have low:base≤2 * n:=hs.low
 have hk2:base≤a2b g n:=by cases g<;>(unfold a2b;dsimp only;omega)
 have hk3:a2b g n < 2 * (n+1):=by cases g<;>(unfold a2b;dsimp only;omega)
 have up:∀ j,j < 2 * n→j < 2 * (n+1):=fun j h=>by omega
 refine ⟨rfl,rfl,by dsimp only;omega,CL.new hs.lg _ hk2,CL.new hs.wl _ hk2,mem_set hs.m _ h,aga hk3 fun e he=>up _ (hs.bd e he),aga hk3 fun e he=>up _ (hs.bw e he),aM2 (fun k x h=>up _ (hs.mb k x h)) hk3 _⟩
theorem aPe (hs:RS B s f) (i:Nat):OkS B (aWj (p4 i) i f) (agu i s):=fun k r hk=>by
 obtain ⟨m,n,l,w⟩:=s
 obtain ⟨fm,nx,base,lg,wl⟩:=f
 have hm:=hs.m i
 dsimp only at hm
 change kla fm nx base lg wl (p4 i) i k=some r at hk
 unfold kla at hk
 generalize getM (p4 i) fm=b at hm hk
 generalize hmi:m.get i=a at hm
 cases hm with
 | cells t N T hok=>exact ⟨_,_,rfl,hs.write (whole i) (hs.mb i _ hmi) .no,hk⟩
 | _=>cases hk
theorem aqy (hs:RS B s f) (i:Nat):Ok B (fun a b=>a=b) (aRw (p4 i) i f) (rdT i s):=fun k r hk=>by
 obtain ⟨m,n,l,w⟩:=s
 obtain ⟨fm,nx,base,lg,wl⟩:=f
 have hm:=hs.m i
 dsimp only at hm
 change rta fm nx base lg wl (p4 i) i k=some r at hk
 unfold rta at hk
 unfold rdT
 dsimp only
 generalize getM (p4 i) fm=b at hm hk
 generalize hmi:m.get i=a at hm
 cases hm with
 | cells t N T hok=>exact ⟨_,_,_,_,rfl,rfl,hs.log ⟨i,0,0,false⟩ (hs.mb i _ hmi),hk⟩
 | _=>cases hk
theorem ay8 (hs:RS B s f) (i:Nat):Ok B (fun a (b:ME×Nat)=>a=b) (fun k=>rmC i f fun es c s=>k (es,c) s) (rdM i s):=fun k r hk=>by
 obtain ⟨m,n,l,w⟩:=s
 obtain ⟨fm,nx,base,lg,wl⟩:=f
 have hm:=hs.m i
 dsimp only at hm
 unfold rmC at hk
 unfold rdM
 dsimp only at hk ⊢
 generalize getM (p4 i) fm=b at hm hk
 generalize hmi:m.get i=a at hm
 cases hm with
 | map es c=>exact ⟨_,_,_,_,rfl,rfl,hs.log ⟨i,0,0,false⟩ (hs.mb i _ hmi),hk⟩
 | _=>cases hk
theorem aUz (hs:RS B s f) (i:Nat) (es:ME) (c:Nat):OkS B (wmC i es c f) (wrM i es c s):=fun k r hk=>by
 obtain ⟨m,n,l,w⟩:=s
 obtain ⟨fm,nx,base,lg,wl⟩:=f
 have hm:=hs.m i
 dsimp only at hm
 unfold wmC at hk
 unfold wrM
 dsimp only at hk ⊢
 generalize getM (p4 i) fm=b at hm hk
 generalize hmi:m.get i=a at hm
 cases hro:Nat.ble roB i with
 | false=>rw [hro] at hk;cases hk
 | true =>
  rw [hro] at hk
  cases hm with
  | map es' c'=>exact ⟨_,_,rfl,hs.write (whole i) (hs.mb i _ hmi) (.map es c),hk⟩
  | _=>cases hk
theorem aPa (hs:RS B s f) (i:Nat):OkS B (aCu i f) (aet i s):=fun k r hk=>by
 obtain ⟨m,n,l,w⟩:=s
 obtain ⟨fm,nx,base,lg,wl⟩:=f
 have hm:=hs.m i
 dsimp only at hm
 unfold aCu at hk
 unfold aet
 dsimp only at hk ⊢
 generalize getM (p4 i) fm=b at hm hk
 generalize hmi:m.get i=a at hm
 cases hro:Nat.ble roB i with
 | false=>rw [hro] at hk;cases hk
 | true =>
  rw [hro] at hk
  cases hm with
  | dfr=>exact ⟨_,_,rfl,hs.write (whole i) (hs.mb i _ hmi) .no,hk⟩
  | _=>cases hk
theorem aqz (hs:RS B s f) (i:Nat):Ok B (fun (a:Fr×List Nat×Code×Code×LS) (b:FF×List Nat×Code×Code×LS)=>RF a.1 b.1∧a.2=b.2) (fun k=>rlC i f fun fr ps x y st s=>k (fr,ps,x,y,st) s) (rdL i s):=fun k r hk=>by
 obtain ⟨m,n,l,w⟩:=s
 obtain ⟨fm,nx,base,lg,wl⟩:=f
 have hm:=hs.m i
 dsimp only at hm
 unfold rlC at hk
 unfold rdL
 dsimp only at hk ⊢
 generalize getM (p4 i) fm=b at hm hk
 generalize hmi:m.get i=a at hm
 cases hm with
 | loop a f ps x y st hf=>exact ⟨_,_,_,_,rfl,⟨hf,rfl⟩,hs.log ⟨i,0,0,false⟩ (hs.mb i _ hmi),hk⟩
 | _=>cases hk
theorem ahl (hs:RS B s f) (i:Nat) (st:LS):OkS B (wlC i st f) (wrL i st s):=fun k r hk=>by
 obtain ⟨m,n,l,w⟩:=s
 obtain ⟨fm,nx,base,lg,wl⟩:=f
 have hm:=hs.m i
 dsimp only at hm
 unfold wlC at hk
 unfold wrL
 dsimp only at hk ⊢
 generalize getM (p4 i) fm=b at hm hk
 generalize hmi:m.get i=a at hm
 cases hro:Nat.ble roB i with
 | false=>rw [hro] at hk;cases hk
 | true =>
  rw [hro] at hk
  cases hm with
  | loop a f ps x y st' hf=>exact ⟨_,_,rfl,hs.write (whole i) (hs.mb i _ hmi) (.loop a f ps x y st hf),hk⟩
  | _=>cases hk
end V
end Go.CE
namespace Go.CE
namespace V
variable [Sym] [a0n]
variable {B:Nat} {s:St} {f:QW} {P:Program}
theorem a0x {a:Fr} {fr:FF} (h:RF a fr):∀ x:Operand,RV (a19 a x) (oV x fr)
 | .tmp t=>⟨(h.slot t).1,(h.slot t).2⟩
 | .const v=>ax3 (conv v)
 | .global k=>by
  show RV (match Nat.ble (k+1) 512 with | true=>_ | false=>_) (Bool.rec (motive:=fun _=>FV) (.w .bad) (.p (p4 (Nat.mul 2 k)) (Nat.mul 2 k) 0) (Nat.ble (k+1) 512))
  cases Nat.ble (k+1) 512 with
  | true=>exact ⟨rfl,rfl⟩
  | false=>exact ⟨rfl,rfl⟩
 | .func g=>⟨rfl,rfl⟩
theorem aka (k:IntKind) (n:Nat):RV (.i k (.ofNat n)) (.i k n):=⟨rfl,trivial⟩
theorem aTi (v:Bool):RV (.b v) (.b v):=⟨rfl,trivial⟩
theorem aTh:RV .u .e:=⟨rfl,trivial⟩
theorem RV.i {a:AV} {k:IntKind} {n:Nat} (h:RV a (.i k n)):a=.i k (.ofNat n):=h.1
theorem a8h {o:Option AV} (hs:RS B s f):Ok B RV (fun k=>V.opt o fun v=>k (ofV v) f) (CE.lift o s):=by
 cases o with
 | none=>exact Ok.none
 | some a=>exact Ok.ret (ax3 a) hs
theorem aMc (j k:IntKind):ikF j k=acb j k:=by cases j<;>cases k<;>rfl
theorem aif (k:IntKind) (h:k.signed=false) (n:Nat):k.wrap (Int.ofNat n)=Int.ofNat (n % 2 ^ k.bits):=by
 unfold IntKind.wrap
 simp only [h,Bool.false_and,Bool.false_eq_true,if_false]
 rfl
theorem ao3 (k:IntKind) (n:Nat):RV (.i k (a5o k (.ofNat n))) (avl k n):=by
 have slow:∀ k,RV (.i k (a5o k (.ofNat n))) (wrS k n):=fun k=>by
  rw [a3u]
  have:=ait (ayc k (k.wrap (Int.ofNat n)))
  rw [aps] at this
  exact this
 cases k with
 | i8=>exact slow .i8
 | i16=>exact slow .i16
 | i32=>exact slow .i32
 | i64 =>
  show RV _ (Bool.rec (motive:=fun _=>FV) (wrS .i64 n) (.i .i64 n) (Nat.ble n 9223372036854775807))
  cases h:Nat.ble n 9223372036854775807 with
  | true =>
   have:a5o .i64 (.ofNat n)=.ofNat n:=by unfold a5o;dsimp only;rw [h]
   rw [this];exact aka _ _
  | false=>exact slow .i64
 | u8=>exact aka _ _
 | u16=>rw [a3u,aif _ rfl];exact aka _ _
 | u32=>rw [a3u,aif _ rfl];exact aka _ _
 | u64=>rw [a3u,aif _ rfl];exact aka _ _
theorem aj9 (b:Bool):aS1 b = !b:=by cases b<;>rfl
theorem aoq (a b:Nat):ar9 a b=min a b:=by
 unfold ar9
 cases h:Nat.ble a b with
 | true=>show a=_;have:=a6e h;omega
 | false=>show b=_;have:=aS9 h;omega
theorem a2i {b:Bool} {x:Ans} {r:FV×QW} (h:V.iff b x=some r):b=true∧x=some r:=by
 cases b with
 | false=>cases h
 | true=>exact ⟨rfl,h⟩
theorem ae7 {op:BinOp} {t:Nat} {j k:IntKind} {a b:Nat} (hop:op≠.shl∧op≠.shr) (hik:ikF j k=true):avf P op t (.i j (.ofNat a)) (.i k (.ofNat b))=adb op j (.ofNat a) (.ofNat b):=by
 rw [aMc] at hik
 unfold avf agm
 cases op<;>first | (exact absurd rfl hop.1) | (exact absurd rfl hop.2) | (dsimp only;rw [hik])
theorem fin {y:Option AV} {x:AV} {v:FV} {k:KV} {r:FV×QW} (hs:RS B s f) (e:y=some x) (hv:RV x v) (hk:k v f=some r) : ∃ b f' a s',CE.lift y s=some (a,s')∧RV a b∧RS B s' f'∧k b f' = some r:=⟨v,f,x,s,by rw [e];rfl,hv,hs,hk⟩
theorem aPh (hs:RS B s f) (op:BinOp) (t:Nat) (j k:IntKind) (a b:Nat):Ok B RV (bI2 k b j a t op P f) (CE.lift (avf P op t (.i j (.ofNat a)) (.i k (.ofNat b))) s):=by
 have sl:Ok B RV (bSl op j a k b t P f) (CE.lift (avf P op t (.i j (.ofNat a)) (.i k (.ofNat b))) s):=a8h hs
 have N:∀ (g:Nat→Nat→Nat),op≠.shl∧op≠.shr→(∀ c,acb j k=c→c=true→adb op j (.ofNat a) (.ofNat b)=some (.i j (a5o j (.ofNat (g a b)))))→Ok B RV (bN g j a k b t P f) (CE.lift (avf P op t (.i j (.ofNat a)) (.i k (.ofNat b))) s):=fun g ho e kk r hk=>by
  obtain ⟨h1,h2⟩:=a2i hk
  exact fin hs ((ae7 ho h1).trans (e _ rfl (by rw [← aMc];exact h1))) (ao3 _ _) h2
 have L:∀ (g:Nat→Nat→Nat),op≠.shl∧op≠.shr→(Nat.ble a j.max.toNat=true→Nat.ble b j.max.toNat=true→adb op j (.ofNat a) (.ofNat b)=some (.i j (.ofNat (g a b))))→Ok B RV (b03 g j a k b t P f) (CE.lift (avf P op t (.i j (.ofNat a)) (.i k (.ofNat b))) s):=fun g ho e kk r hk=>by
  obtain ⟨h1,h2⟩:=a2i hk
  obtain ⟨h3,h4⟩:=a2i h2
  obtain ⟨h5,h6⟩:=a2i h4
  exact fin hs ((ae7 ho h1).trans (e h3 h5)) (aka _ _) h6
 have C:∀ (g:Nat→Nat→Bool),op≠.shl∧op≠.shr→adb op j (.ofNat a) (.ofNat b)=some (.b (g a b))→Ok B RV (bC g j a k b t P f) (CE.lift (avf P op t (.i j (.ofNat a)) (.i k (.ofNat b))) s):=fun g ho e kk r hk=>by
  obtain ⟨h1,h2⟩:=a2i hk
  exact fin hs ((ae7 ho h1).trans e) (aTi _) h2
 cases op with
 | add=>exact N Nat.add (by decide) fun _ _ _=>rfl
 | sub =>
  show Ok B RV (fun kk=>Bool.rec (motive:=fun _=>Ans) (bSl .sub j a k b t P f kk) (bN Nat.sub j a k b t P f kk) (Nat.ble b a)) _
  cases h:Nat.ble b a with
  | false=>exact sl
  | true =>
   refine N Nat.sub (by decide) fun _ _ _=>?_
   have hb:=a6e h
   show some (AV.i j (a5o j (Int.ofNat a - Int.ofNat b)))=_
   have:(Int.ofNat a - Int.ofNat b:Int)=Int.ofNat (Nat.sub a b):=by
    show ((a:Int) - (b:Int))=((a - b:Nat):Int);omega
   rw [this]
 | mul=>exact N Nat.mul (by decide) fun _ _ _=>rfl
 | quo =>
  show Ok B RV (fun kk=>Bool.rec (motive:=fun _=>Ans) (bN Nat.div j a k b t P f kk) none (Nat.beq b 0)) _
  cases h:Nat.beq b 0 with
  | true=>exact Ok.none
  | false =>
   refine N Nat.div (by decide) fun _ _ _=>?_
   show (match eqI (Int.ofNat b) 0 with | true=>none | false=>some (AV.i j (a5o j ((Int.ofNat a).tdiv (Int.ofNat b)))))=_
   have:eqI (Int.ofNat b) 0=false:=h
   rw [this];rfl
 | rem =>
  show Ok B RV (fun kk=>Bool.rec (motive:=fun _=>Ans) (V.iff (ikF j k) (kk (.i j (Nat.mod a b)) f)) none (Nat.beq b 0)) _
  cases h:Nat.beq b 0 with
  | true=>exact Ok.none
  | false =>
   intro kk r hk
   obtain ⟨h1,h2⟩:=a2i hk
   refine fin hs ((ae7 (by decide) h1).trans ?_) (aka _ _) h2
   show (match eqI (Int.ofNat b) 0 with | true=>none | false=>some (AV.i j ((Int.ofNat a).tmod (Int.ofNat b))))=_
   have:eqI (Int.ofNat b) 0=false:=h
   rw [this];rfl
 | and=>exact L Nat.land (by decide) fun h1 h2=>by unfold adb av5;dsimp only;rw [h1,h2];rfl
 | or=>exact L Nat.lor (by decide) fun h1 h2=>by unfold adb av5;dsimp only;rw [h1,h2];rfl
 | xor=>exact L Nat.xor (by decide) fun h1 h2=>by unfold adb av5;dsimp only;rw [h1,h2];rfl
 | shl =>
  intro kk r hk
  change kk (avl j (Nat.mul a (Nat.pow 2 (ar9 b (aI0 j))))) f=some r at hk
  refine fin hs ?_ (ao3 _ _) hk
  rw [aoq]
  rfl
 | shr =>
  intro kk r hk
  change kk (.i j (Nat.div a (Nat.pow 2 (ar9 b (aI0 j))))) f=some r at hk
  refine fin hs ?_ (aka _ _) hk
  rw [aoq]
  rfl
 | andNot=>exact sl
 | eql=>exact C Nat.beq (by decide) rfl
 | neq=>exact C b4p (by decide) (by show some (AV.b (!Nat.beq a b))=_;unfold b4p;rw [aj9])
 | lss=>exact C b4q (by decide) (by show some (AV.b (!Nat.ble b a))=_;unfold b4q;rw [aj9])
 | leq=>exact C Nat.ble (by decide) rfl
 | gtr=>exact C b4r (by decide) (by show some (AV.b (!Nat.ble a b))=_;unfold b4r;rw [aj9])
 | geq=>exact C cGeq (by decide) rfl
theorem aVf (hs:RS B s f) (op:BinOp) (t:Nat) {x y:AV} {v w:FV} (hx:RV x v) (hy:RV y w):Ok B RV (ab5 v w t op P f) (CE.lift (avf P op t x y) s):=by
 obtain ⟨rfl,ov⟩:=hx
 obtain ⟨rfl,ow⟩:=hy
 cases v with
 | i j a =>
  cases w with
  | i k b=>exact aPh hs op t j k a b
  | _=>exact a8h hs
 | _=>exact a8h hs
theorem b2y (hs:RS B s f) (op:UnOp) {t:Nat} {x:AV} {v:FV} (hx:RV x v):Ok B RV (UnOp.rec (motive:=fun _=>FV→QW→KV→Ans) (unS .neg) (unS .xor) b38 (unS .plus) op v f) (CE.lift (unA op x) s):=by
 obtain ⟨rfl,ov⟩:=hx
 cases op with
 | not =>
  cases v with
  | b v=>exact Ok.ret (by rw [aj9];exact aTi _) hs
  | _=>exact Ok.none
 | _=>exact a8h hs
theorem ayf (hs:RS B s f) (t:Nat) {x:AV} {v:FV} (hx:RV x v):Ok B RV (au5 P t v f) ((match a1q P t with
  | some ty=>a9k ty x
  | none=>fail) s):=by
 obtain ⟨rfl,ov⟩:=hx
 unfold au5 aim
 cases a1q P t with
 | none=>exact Ok.none
 | some ty =>
  cases v with
  | p q i o =>
   have hq:q=p4 i:=ov
   subst hq
   show Ok B RV (fun k=>Bool.rec (motive:=fun _=>Ans) (b2h (p4 i) i o f k) (aiv (p4 i) i o ty.size f k) (agg ty.d)) (a9k ty (.p (some (i,o))) s)
   unfold a9k
   dsimp only
   cases agg ty.d with
   | false =>
    refine Ok.bnd (g:=fun v f k=>k v f) (aV5 hs i o) fun v f a s h hs=>?_
    obtain ⟨rfl,hc⟩:=h
    exact Ok.ret (ait hc) hs
   | true =>
    refine Ok.bnd (g:=fun v f k=>k v f) (a7v hs i o ty.size) fun v f a s h hs=>?_
    obtain ⟨t,rfl,rfl,hc⟩:=h
    exact Ok.ret ⟨rfl,hc⟩ hs
  | _=>exact Ok.none
theorem a9n {v:FV} (h:a4l v):cellsOf (a2t v) = [a6g v]∧a1f [a6g v]=true:=by
 rw [(ac7 h).1]
 constructor
 ·cases v with
  | o a=>cases a<;>first | rfl | (simp [a4l,sc] at h)
  | _=>first | rfl | exact absurd h id
 ·unfold a1f;rw [ao0 h];rfl
theorem aT6 (v:FV) (h:a4l v) (n:Nat) (q:P4) (i o:Nat) (f:QW) (k:KV):stV v n q i o f k=st1 v n q i o f k:=by
 cases v<;>first | rfl | exact absurd h id
theorem aAj {v:FV} (h:okV v):a4l v∨(∃ t n,v=.g t n∧a3j t n)∨(∃ x,v=.w x)∨(∃ t n,v=.t t n)∨v=.e:=by
 cases v with
 | g t n=>exact .inr (.inl ⟨t,n,rfl,h⟩)
 | w x=>exact .inr (.inr (.inl ⟨x,rfl⟩))
 | t t n=>exact .inr (.inr (.inr (.inl ⟨t,n,rfl⟩)))
 | e=>exact .inr (.inr (.inr (.inr rfl)))
 | n _ _ _ _ _=>exact absurd h id
 | _=>exact .inl h
theorem aFu (hs:RS B s f) (ty:TY) {x y:AV} {v w:FV} (hx:RV x v) (hy:RV y w):Ok B RV (stA v w ty.size f) (CE.bnd (abd ty x y) (fun _=>CE.ret .u) s):=by
 obtain ⟨rfl,ov⟩:=hx
 obtain ⟨rfl,ow⟩:=hy
 cases v with
 | p q i o =>
  have hq:q=p4 i:=ov
  subst hq
  show Ok B RV (fun k=>stV w ty.size (p4 i) i o f k) (CE.bnd (CE.bnd (CE.chk (Nat.beq (cellsOf (a2t w)).length ty.size)) fun _=>CE.bnd (CE.chk (a1f (cellsOf (a2t w)))) fun _=>match cellsOf (a2t w) with
   | []=>CE.ret ()
   | _ :: _=>wrK i o (cellsOf (a2t w))) (fun _=>CE.ret .u) s)
  rcases aAj ow with h | ⟨t,n,rfl,h⟩ | ⟨x,rfl⟩ | ⟨t,n,rfl⟩ | rfl
  ·obtain ⟨h1,h2⟩:=a9n h
   rw [h1]
   intro k r hk
   dsimp only at hk
   rw [aT6 _ h] at hk
   obtain ⟨h3,h4⟩:=a2i hk
   obtain ⟨f',s',e,h5,h6⟩:=aV1 hs i o h _ _ h4
   refine ⟨.e,f',.u,s',?_,aTh,h5,h6⟩
   have e1:Nat.beq [a6g w].length ty.size=true:=by have:=a92 h3;rw [this];rfl
   rw [e1,h2]
   show CE.bnd (wrK i o [a6g w]) (fun _=>CE.ret AV.u) s=_
   unfold CE.bnd
   rw [e];rfl
  ·have h1:cellsOf (a2t (.g t n))=a07 t 0 n:=rfl
   rw [h1]
   intro k r hk
   obtain ⟨h3,h4⟩:=a2i hk
   have hn:n=ty.size:=a92 h3
   have e1:Nat.beq (a07 t 0 n).length ty.size=true:=by rw [a0q];exact h3
   rw [e1,a97 h]
   cases n with
   | zero=>exact ⟨.e,f,.u,s,rfl,aTh,hs,h4⟩
   | succ n =>
    change aMu (p4 i) i o t (n+1) f (k .e)=some r at h4
    obtain ⟨f',s',e,h5,h6⟩:=ay6 hs i o (n+1) h _ _ h4
    refine ⟨.e,f',.u,s',?_,aTh,h5,h6⟩
    have:a07 t 0 (n+1)=a6g (a1d (p4 0) t) :: (a07 t 0 (n+1)).tail:=by
     cases hc:a07 t 0 (n+1) with
     | nil=>have:=a0q t 0 (n+1);rw [hc] at this;simp at this
     | cons a l => 
      have h0:=a0m t 0 (n+1) 0
      rw [hc] at h0
      simp at h0
      rw [h0];rfl
    rw [this] at e ⊢
    show CE.bnd (wrK i o (_ :: _)) (fun _=>CE.ret AV.u) s=_
    unfold CE.bnd
    rw [e];rfl
  ·exact Ok.none
  ·exact Ok.none
  ·exact Ok.none
 | _=>exact Ok.none
theorem apx {t:Nat} {z:FV×Nat} (h:avg P t=some z) : ∃ ty,a1q P t=some ty∧z.2=ty.zero.length∧a07 z.1 0 z.2=ty.zero∧a3j z.1 z.2:=by
 unfold avg at h
 cases hty:a1q P t with
 | none=>rw [hty] at h;cases h
 | some ty =>
  rw [hty] at h
  dsimp only at h
  cases hz:a1f ty.zero with
  | false=>rw [hz] at h;cases h
  | true =>
   rw [hz] at h
   cases h
   have:=a1g _ hz
   exact ⟨ty,rfl,rfl,this.1,this.2⟩
theorem a1v (hs:RS B s f) (g:Bool) (T:Nat) {t:FV} {n:Nat} {cs:List AV} (hc:a07 t 0 n=cs) (ho:a3j t n) {α β:Type} {R:α→β→Prop} {x:P4→Nat→QW→(β→QW→Ans)→Ans} {y:Nat→X α} (h:∀ i f s,RS B s f→Ok B R (x (p4 i) i f) (y i s)) :
  Ok B R (fun k=>a9h g (.cells t n T) f fun q i f=>x q i f k) (CE.bnd (a4o g (.cells cs T)) y s):=fun k r hk=>by
 subst hc
 obtain ⟨i,f',s',e,h1,h2⟩:=ayd hs g (.cells t n T ho) _ r hk
 obtain ⟨b,f2,a,s2,e2,h3,h4,h5⟩:=h i f' s' h1 k r h2
 refine ⟨b,f2,a,s2,?_,h3,h4,h5⟩
 unfold CE.bnd
 rw [e];exact e2
theorem aRu (i o:Nat):RV (.p (some (i,o))) (.p (p4 i) i o):=⟨rfl,rfl⟩
theorem aIo (i o n c:Nat):RV (.sl (some (i,o)) n c) (.s (p4 i) i o n c):=⟨rfl,rfl⟩
theorem aG1 (hs:RS B s f) (t:Nat) (c:Cx) (fr:FF) (hc:c.P=P):Ok B RV (aIe t c fr f) ((match a1q P t with
  | some ty=>CE.bnd (a4o false (.cells ty.zero t)) fun k=>CE.ret (AV.p (some (k,0)))
  | none=>fail) s):=by
 subst hc
 refine Ok.opt fun z hz=>?_
 obtain ⟨ty,e,h1,h2,h3⟩:=apx hz
 rw [e]
 exact a1v hs false t h2 h3 (x:=fun q i f k=>k (FV.p q i 0) f) fun i f s hs=>Ok.ret (aRu i 0) hs
theorem aVe (hs:RS B s f) (t:Nat) {x:AV} {v:FV} (hx:RV x v):Ok B RV (bxV v t f) (aAv t x s):=by
 obtain ⟨rfl,ov⟩:=hx
 have one:a4l v→Ok B RV (fun k=>a9h false (.cells (ab8 (p4 0) v .e) 1 t) f fun q i s=>k (.p q i 0) s) (aAv t (a2t v) s):=fun h=>by
  obtain ⟨h1,h2⟩:=a9n h
  unfold aAv
  rw [h1]
  exact Ok.chk h2 (a1v hs false t (cells_one v) (ok_one h) (x:=fun q i f k=>k (FV.p q i 0) f) fun i f s hs=>Ok.ret (aRu i 0) hs)
 cases v with
 | g c n =>
  unfold aAv
  exact Ok.chk (a97 ov) (a1v hs false t rfl ov (x:=fun q i f k=>k (FV.p q i 0) f) fun i f s hs=>Ok.ret (aRu i 0) hs)
 | i _ _=>exact one ov
 | b _=>exact one ov
 | p _ _ _=>exact one ov
 | s _ _ _ _ _=>exact one ov
 | o _=>exact one ov
 | _=>exact Ok.none
end V
end Go.CE
namespace Go.CE
namespace V
variable [Sym] [a0n]
variable {B:Nat} {s:St} {f:QW} {P:Program}
theorem auw {v:FV} (h:a4l v):sc (a2t v)=true:=by rw [(ac7 h).1];exact ao0 h
theorem aWa {v t:FV} {off size N:Nat} {k:FV→Ans} {r:FV×QW} (h:ly1 v t off size N k=some r):size=1∧off+1≤N∧k (ab8 (p4 off) v t)=some r:=by
 obtain ⟨h1,h2⟩:=a2i h
 obtain ⟨h3,h4⟩:=a2i h2
 exact ⟨a92 h1,a6e h3,h4⟩
theorem aW9 {v:FV} (h:a4l v) (t:FV) (off size N:Nat) (k:FV→Ans):lyV v t off size N k=ly1 v t off size N k:=by
 cases v<;>first | rfl | exact absurd h id
theorem aj7 {a:Fr} {fr:FF} (hf:RF a fr) {pl place:PL} (hp:∀ j z,pl j=some z→place j=some z) (N:Nat):∀ (l:List (Nat×Operand)) (t:FV),a3j t N→∀ (k:FV→Ans) (r:FV×QW),apc pl N (anm l fr) t k=some r →
  ∃ t',afx place (a07 t 0 N) (l.map fun (j,x)=>(j,a19 a x))=some (a07 t' 0 N)∧a3j t' N∧k t' = some r
 | [],t,ht,k,r,hk=>⟨t,rfl,ht,hk⟩
 | (j,x) :: l,t,ht,k,r,hk=>by
  change V.opt (pl j) (fun z=>lyV (oV x fr) t z.1 z.2 N (fun t=>apc pl N (anm l fr) t k))=some r at hk
  cases hz:pl j with
  | none=>rw [hz] at hk;cases hk
  | some z =>
   obtain ⟨off,size⟩:=z
   rw [hz] at hk
   change lyV (oV x fr) t off size N (fun t=>apc pl N (anm l fr) t k)=some r at hk
   have hpl:=hp _ _ hz
   obtain ⟨e,ov⟩:=a0x hf x
   generalize oV x fr=v at hk e ov
   show ∃ t',(match place j with
    | none=>none
    | some (off,size)=>match sc (a19 a x)||a1f (cellsOf (a19 a x)),Nat.beq (cellsOf (a19 a x)).length size with
     | true,true=>match setAt (a07 t 0 N) off (cellsOf (a19 a x)) with
      | some cs=>afx place cs (l.map fun (j,x)=>(j,a19 a x))
      | none=>none
     | _,_=>none)=some (a07 t' 0 N)∧a3j t' N∧k t' = some r
   rw [hpl,e]
   dsimp only
   rcases aAj ov with h | ⟨t2,n,rfl,h⟩ | ⟨x,rfl⟩ | ⟨t,n,rfl⟩ | rfl
   ·rw [aW9 h] at hk
    obtain ⟨rfl,h1,h2⟩:=aWa hk
    obtain ⟨t',h3,h4,h5⟩:=aj7 hf hp N l _ (aKf ht h) k r h2
    refine ⟨t',?_,h4,h5⟩
    obtain ⟨e1,e2⟩:=a9n h
    rw [e1,auw h,akt h1]
    exact h3
   ·obtain ⟨h1,h2⟩:=a2i (show V.iff (Nat.beq n size) _=some r from hk)
    obtain ⟨h3,h4⟩:=a2i h2
    have hn:n=size:=a92 h1
    subst hn
    obtain ⟨t',h6,h7,h8⟩:=aj7 hf hp N l _ (aKg ht h (a6e h3)) k r h4
    refine ⟨t',?_,h7,h8⟩
    have e1:cellsOf (a2t (.g t2 n))=a07 t2 0 n:=rfl
    rw [e1,a97 h,a0q,aed,Bool.or_true,aap (a6e h3)]
    exact h6
   ·cases hk
   ·cases hk
   ·cases hk
theorem aG0 (hs:RS B s f) {a:Fr} {fr:FF} (hf:RF a fr) (t:Nat) (ps:Array (Nat×Operand)) (c:Cx) (hc:c.P=P):Ok B RV (aId t ps c fr f) (CE.lift (ado P t (ps.toList.map fun (j,x)=>(j,a19 a x))) s):=by
 subst hc
 intro k r hk
 obtain ⟨h1,h2⟩:=a2i hk
 cases hz:avg c.P t with
 | none=>rw [hz] at h2;cases h2
 | some z =>
  rw [hz] at h2
  obtain ⟨ty,e,z1,z2,z3⟩:=apx hz
  change apc (aUp c.P t) z.2 (anm ps.toList fr) z.1 (fun r=>k (.g r z.2) f)=some r at h2
  have core:∀ place,(∀ j z,aUp c.P t j=some z→place j=some z)→(∀ parts cs,afx place ty.zero parts=some cs→ado c.P t parts=some (.g cs))→∃ b f' a' s',CE.lift (ado c.P t (ps.toList.map fun (j,x)=>(j,a19 a x))) s=some (a',s')∧RV a' b∧RS B s' f'∧k b f' = some r:=fun place hp hb=>by
   obtain ⟨t',h3,h4,h5⟩:=aj7 hf hp z.2 ps.toList z.1 z3 _ r h2
   rw [z2] at h3
   exact ⟨.g t' z.2,f,.g (a07 t' 0 z.2),s,by rw [hb _ _ h3];rfl,⟨rfl,h4⟩,hs,h5⟩
  unfold aY1 at h1
  rw [e] at h1
  dsimp only at h1
  cases hd:ty.d with
  | abb fs =>
   rw [hd] at h1
   dsimp only at h1
   refine core (placeOf c.P fs) (fun j z hj=>?_) (fun parts cs hcs=>?_)
   ·unfold aUp at hj;rw [e] at hj;dsimp only at hj;rw [hd] at hj;exact hj
   ·unfold ado;rw [e];dsimp only;rw [hd];dsimp only;rw [h1];dsimp only;rw [hcs]
  | arr n el =>
   rw [hd] at h1
   dsimp only at h1
   cases hse:a5i c.P el with
   | none=>rw [hse] at h1;cases h1
   | some m =>
    refine core (fun j=>some (j * m,m)) (fun j z hj=>?_) (fun parts cs hcs=>?_)
    ·unfold aUp at hj;rw [e] at hj;dsimp only at hj;rw [hd] at hj;dsimp only at hj;rw [hse] at hj;exact hj
    ·unfold ado;rw [e];dsimp only;rw [hd];dsimp only;rw [hse];dsimp only;rw [hcs]
  | _=>rw [hd] at h1;cases h1
theorem aj8 (hs:RS B s f) {a:Fr} {fr:FF} (hf:RF a fr) (t len:Nat) (ps:Array (Nat×Operand)) (c:Cx) (hc:c.P=P):Ok B RV (aeh t len ps c fr f) (a3f P t len (ps.toList.map fun (j,x)=>(j,a19 a x)) s):=by
 subst hc
 intro k r hk
 change V.opt (bsOf c.P t len) _=some r at hk
 cases hz:bsOf c.P t len with
 | none=>rw [hz] at hk;cases hk
 | some z =>
  rw [hz] at hk
  unfold bsOf at hz
  unfold a3f
  split at hz
  ·rename_i e sz by' zr hty
   rw [hty]
   dsimp only
   cases hte:a1q c.P e with
   | none=>rw [hte] at hz;cases hz
   | some ty =>
    rw [hte] at hz
    dsimp only at hz ⊢
    cases hch:(Nat.ble (len * ty.size) 16777216&&Nat.beq ty.zero.length ty.size&&a1f ty.zero) with
    | false=>rw [hch] at hz;cases hz
    | true =>
     rw [hch] at hz
     cases hz
     simp only [Bool.and_eq_true] at hch
     obtain ⟨⟨h1,h2⟩,h3⟩:=hch
     have hr:a1f (af1 ty.zero len)=true:=a9j fun v hv=>by
      clear hk h1 h2 hte hty
      induction len with
      | zero=>simp [af1] at hv
      | succ n ih =>
       rcases List.mem_append.mp (show v∈ty.zero++af1 ty.zero n from hv) with h | h
       ·exact ac5 h3 v h
       ·exact ih h
     obtain ⟨z1,z2⟩:=a1g _ hr
     change apc (fun j=>some (j * ty.size,ty.size)) (af1 ty.zero len).length (anm ps.toList fr) (a0r (af1 ty.zero len)) (fun r=>a9h false (.cells r (af1 ty.zero len).length e) f fun q i s=>k (.s q i 0 len len) s)=some r at hk
     obtain ⟨t',h4,h5,h6⟩:=aj7 hf (place:=fun j=>some (j * ty.size,ty.size)) (fun j z hj=>hj) _ ps.toList _ z2 _ r hk
     rw [z1] at h4
     have h4':afx (fun j=>some (j * ty.size,ty.size)) (af1 ty.zero len) (ps.toList.map fun x=>(x.fst,a19 a x.snd))=some (a07 t' 0 (af1 ty.zero len).length):=h4
     rw [h1,h2,h4']
     exact a1v hs false e rfl h5 (x:=fun q i f k=>k (FV.s q i 0 len len) f) (y:=fun k=>CE.ret (AV.sl (some (k,0)) len len)) (fun i f s hs=>Ok.ret (aIo i 0 len len) hs) k r h6
  ·cases hz
theorem aV7 (hs:RS B s f) {x:AV} {v:FV} (hx:RV x v):Ok B RV (aPm v f) ((match x with
 | .p (some a)=>CE.ret (AV.p (some a))
 | .f fn a c=>CE.ret (AV.f fn a c)
 | .m r=>CE.ret (AV.m r)
 | _=>fail) s):=by
 obtain ⟨rfl,ov⟩:=hx
 cases v with
 | p q i o=>exact Ok.ret ⟨rfl,ov⟩ hs
 | o a =>
  cases a<;>first | exact Ok.none | exact Ok.ret ⟨rfl,rfl⟩ hs
 | _=>exact Ok.none
theorem azt {t:FV} {n:Nat} {r:List Nat} (h:arv (.g t n)=some r):a4c (a07 t 0 n)=some r:=h
theorem aPg (hs:RS B s f) (a t:Nat) (x:Operand) {ar:Fr} {fr:FF} (hf:RF ar fr) (c:Cx) (hc:c.P=P):Ok B RV (aMt a t x c fr f) (a5t P a t (a19 ar x) s):=by
 subst hc
 unfold aMt
 obtain ⟨e,ov⟩:=a0x hf x
 rw [e]
 generalize oV x fr=v at ov
 cases hi:azc c.P a t with
 | some kd =>
  show Ok B RV (cvV v kd f) _
  unfold azc at hi
  split at hi
  ·rename_i sd kd' sz by' zr h1 h2
   cases hi
   unfold a5t
   rw [h1,h2]
   cases v with
   | i j n=>exact Ok.ret (ao3 _ _) hs
   | o v =>
    cases v with
    | i j n=>exact Ok.ret (by have:=ait (ayc kd (a5o kd n));rw [aps] at this;exact this) hs
    | x j n=>exact a8h hs
    | _=>exact Ok.none
   | _=>exact Ok.none
  ·cases hi
 | none =>
  show Ok B RV (cvT c.P a t v f) _
  unfold cvT a5t
  cases h1:a1q c.P a with
  | none=>exact Ok.none
  | some sd =>
   cases h2:a1q c.P t with
   | none=>exact Ok.none
   | some d =>
    dsimp only
    obtain ⟨sdd,sz1,by1,z1⟩:=sd
    obtain ⟨dd,sz2,by2,z2⟩:=d
    dsimp only
    cases dd with
    | str =>
     cases v with
     | o v =>
      cases v with
      | s x=>exact Ok.ret ⟨rfl,rfl⟩ hs
      | sl b n cp =>
       cases b with
       | some _=>cases sdd<;>exact Ok.none
       | none =>
        cases sdd with
        | slice e =>
         show Ok B RV (fun k=>match a1q c.P e with
          | some ⟨.int .u8,_,_,_⟩=>k (.o (.s [])) f
          | _=>none) ((match a1q c.P e with
          | some ⟨.int .u8,_,_,_⟩=>CE.ret (AV.s [])
          | _=>fail) s)
         split
         ·rename_i h;rw [h];exact Ok.ret ⟨rfl,rfl⟩ hs
         ·exact Ok.none
        | _=>exact Ok.none
      | _=>cases sdd<;>exact Ok.none
     | s q i o n cp =>
      cases sdd with
      | slice e =>
       have hq:q=p4 i:=ov
       subst hq
       show Ok B RV (fun k=>match a1q c.P e with
        | some ⟨.int .u8,_,_,_⟩=>aiv (p4 i) i o n f fun v s=>V.opt (arv v) fun r=>k (.o (.s r)) s
        | _=>none) ((match a1q c.P e with
        | some ⟨.int .u8,_,_,_⟩=>CE.bnd (rdK i o n) fun l=>CE.bnd (CE.lift (a4c l)) fun r=>CE.ret (AV.s r)
        | _=>fail) s)
       split
       ·rename_i h
        rw [h]
        refine Ok.bnd (g:=fun v f k=>V.opt (arv v) fun r=>k (FV.o (.s r)) f) (a7v hs i o n) fun v f l s hv hs=>?_
        obtain ⟨tt,rfl,rfl,ht⟩:=hv
        exact Ok.opt fun r hr=>Ok.lift (azt hr) (Ok.ret ⟨rfl,rfl⟩ hs)
       ·exact Ok.none
      | _=>exact Ok.none
     | _=>cases sdd<;>exact Ok.none
    | _ => 
     intro k r hk
     dsimp only at hk
     cases sdd<;>(try (cases v<;>cases hk))<;>cases hk
theorem apv {a:Fr} {fr:FF} (hf:RF a fr):∀ l:List Operand,aSb (ak6 l fr)=l.map (a19 a)
 | []=>rfl
 | x :: l=>by
  show a2t (oV x fr) :: aSb (ak6 l fr)=_
  rw [apv hf l,← (a0x hf x).1];rfl
end V
end Go.CE
namespace Go.CE
namespace V
variable [Sym] [a0n]
variable {B:Nat} {s:St} {f:QW} {P:Program}
theorem aja {v:FV} {k:Nat→Ans} {r:FV×QW} (h:alr v k=some r) : ∃ kd n,v=.i kd n∧k n=some r:=by
 cases v with
 | i kd n=>exact ⟨kd,n,rfl,h⟩
 | _=>cases h
theorem art (z:FV) (size:Nat):∀ (n j:Nat),j < n * size→a1d (p4 j) (aTt z size n)=a1d (p4 (j % size)) z
 | 0,j,h=>by omega
 | n+1,j,h=>by
  show a1d (p4 j) (ovT (aTt z size n) z (n * size) size)=_
  rw [afv]
  have e:(n+1) * size=n * size+size:=Nat.succ_mul n size
  by_cases h1:j < n * size
  ·rw [if_neg (by omega),art z size n j h1]
  ·rw [if_pos (by omega)]
   congr 2
   have h2:j=(j - n * size)+size * n:=by rw [Nat.mul_comm size n];omega
   have h3:j % size=(j - n * size) % size:=by
    conv=>lhs;rw [h2]
    exact Nat.add_mul_mod_self_left _ _ _
   rw [h3,Nat.mod_eq_of_lt (by omega)]
theorem alk (hs:RS B s f) {a:Fr} {fr:FF} (hf:RF a fr) (t:Nat) (l c:Operand) (cx:Cx) (hc:cx.P=P):Ok B RV (ah2 t l c cx fr f) (a3y P t (a19 a l) (a19 a c) s):=by
 subst hc
 intro k r hk
 change V.opt (aZf cx.P t) _=some r at hk
 cases hz:aZf cx.P t with
 | none=>rw [hz] at hk;cases hk
 | some z =>
  rw [hz] at hk
  unfold aZf at hz
  split at hz
  ·rename_i e sz by' zr hty
   cases hte:a1q cx.P e with
   | none=>rw [hte] at hz;cases hz
   | some ty =>
    rw [hte] at hz
    dsimp only at hz
    cases hch:(Nat.ble ty.bytes 100000&&Nat.beq ty.zero.length ty.size&&a1f ty.zero) with
    | false=>rw [hch] at hz;cases hz
    | true =>
     rw [hch] at hz
     cases hz
     simp only [Bool.and_eq_true] at hch
     obtain ⟨⟨h1,h2⟩,h3⟩:=hch
     obtain ⟨z1,z2⟩:=a1g _ h3
     obtain ⟨kd,ln,e1,hk⟩:=aja (show alr (oV l fr) _=some r from hk)
     obtain ⟨kd2,cn,e2,hk⟩:=aja hk
     obtain ⟨h4,hk⟩:=a2i hk
     simp only [Bool.and_eq_true] at h4
     have hl:a19 a l=.i kd (.ofNat ln):=by rw [(a0x hf l).1,e1];rfl
     have hcn:a19 a c=.i kd2 (.ofNat cn):=by rw [(a0x hf c).1,e2];rfl
     unfold a3y
     rw [hl,hcn,hty]
     dsimp only [aG6]
     rw [hte]
     dsimp only
     rw [h1,h2,h4.1,h4.2]
     have hsz:ty.zero.length=ty.size:=a92 h2
     have hg:=fun j=>art (a0r ty.zero) ty.size cn j
     have hcell:a07 (aTt (a0r ty.zero) ty.size cn) 0 (cn * ty.size)=af1 ty.zero cn:=by
      apply List.ext_getElem?
      intro j
      rw [a0m]
      have hr:=ae0 ty.zero cn j
      by_cases hj:j < cn * ty.size
      ·rw [if_pos hj,Nat.zero_add,hg j hj,hr.2 (by rw [hsz];exact hj),hsz]
       have hp:j % ty.size < ty.size:=Nat.mod_lt _ (by
                                 rcases Nat.eq_zero_or_pos ty.size with h | h;· rw [h] at hj;omega
                                 ·exact h)
       have:=a0m (a0r ty.zero) 0 ty.zero.length (j % ty.size)
       rw [show a07 (a0r ty.zero) 0 ty.zero.length=ty.zero from z1,if_pos (by omega),Nat.zero_add] at this
       exact this.symm
      ·rw [if_neg hj]
       exact (List.getElem?_eq_none (by rw [hr.1,hsz];omega)).symm
     have hok:a3j (aTt (a0r ty.zero) ty.size cn) (cn * ty.size):=fun j hj=>by
      rw [hg j hj]
      refine z2 _ ?_
      rw [hsz]
      exact Nat.mod_lt _ (by
                  rcases Nat.eq_zero_or_pos ty.size with h | h;· rw [h] at hj;omega
                  ·exact h)
     exact a1v hs false e hcell hok (x:=fun q i f k=>k (FV.s q i 0 ln cn) f) (y:=fun k=>CE.ret (AV.sl (some (k,0)) ln cn)) (fun i f s hs=>Ok.ret (aIo i 0 ln cn) hs) k r hk
  ·cases hz
theorem apu {a:Fr} {fr:FF} (hf:RF a fr) (x:Option Operand):b05 (aZ8 x fr)=x.map (a19 a):=by
 cases x with
 | none=>rfl
 | some x=>show some (a2t (oV x fr))=some (a19 a x);rw [(a0x hf x).1]
theorem ok_slice (hs:RS B s f) {a:Fr} {fr:FF} (hf:RF a fr) (t:Nat) (x:Operand) (lo hi mx:Option Operand) (c:Cx) (hc:c.P=P):Ok B RV (avi t x lo hi mx c fr f) (CE.bnd (aAi P t (a19 a x)) (fun _=>CE.lift (abe P t (a19 a x) (lo.map (a19 a)) (hi.map (a19 a)) (mx.map (a19 a)))) s):=by
 subst hc
 unfold avi aIl
 rw [apu hf,apu hf,apu hf]
 obtain ⟨e,ov⟩:=a0x hf x
 rw [← e]
 have last:∀ f s,RS B s f→Ok B RV (fun k=>V.opt (abe c.P t (a19 a x) (lo.map (a19 a)) (hi.map (a19 a)) (mx.map (a19 a))) fun v=>k (ofV v) f) (CE.lift (abe c.P t (a19 a x) (lo.map (a19 a)) (hi.map (a19 a)) (mx.map (a19 a))) s):=fun f s hs=>a8h hs
 generalize abe c.P t (a19 a x) (lo.map (a19 a)) (hi.map (a19 a)) (mx.map (a19 a))=res at last
 rw [e]
 generalize oV x fr=v at ov
 have aC9:(aAi c.P t (a2t v)=CE.ret ())→Ok B RV (fun k=>V.opt res fun v=>k (ofV v) f) (CE.bnd (aAi c.P t (a2t v)) (fun _=>CE.lift res) s):=fun h=>by
  rw [h];exact last f s hs
 cases v with
 | s q i o n cp =>
  have hq:q=p4 i:=ov
  subst hq
  show Ok B RV (fun k=>Bool.rec (motive:=fun _=>Ans) (V.opt res fun v=>k (ofV v) f) (aRw (p4 i) i f fun T f=>V.iff (aRq c.P t T) (V.opt res fun v=>k (ofV v) f)) (gw i)) (CE.bnd (match gw i with
   | true=>CE.bnd (rdT i) fun T=>match a1q c.P t with
    | some ⟨.slice e,_,_,_⟩=>CE.chk (Nat.beq T e)
    | _=>fail
   | false=>CE.ret ()) (fun _=>CE.lift res) s)
  cases gw i with
  | false=>exact last f s hs
  | true =>
   have hh:∀ T s,CE.bnd (match a1q c.P t with
    | some ⟨.slice e,_,_,_⟩=>CE.chk (Nat.beq T e)
    | _=>fail) (fun _=>CE.lift res) s=CE.bnd (CE.chk (aRq c.P t T)) (fun _=>CE.lift res) s:=fun T s=>by
    unfold aRq
    cases a1q c.P t with
    | none=>rfl
    | some ty=>obtain ⟨d,x1,x2,x3⟩:=ty;cases d<;>rfl
   have e2:(CE.bnd (CE.bnd (rdT i) fun T=>match a1q c.P t with
    | some ⟨.slice e,_,_,_⟩=>CE.chk (Nat.beq T e)
    | _=>fail) (fun _=>CE.lift res) s)=CE.bnd (rdT i) (fun T=>CE.bnd (CE.chk (aRq c.P t T)) (fun _=>CE.lift res)) s:=by
    unfold CE.bnd
    cases rdT i s with
    | none=>rfl
    | some q=>exact hh q.1 q.2
   refine Ok.eq ?_ e2.symm
   refine Ok.bnd (g:=fun T f k=>V.iff (aRq c.P t T) (V.opt res fun v=>k (ofV v) f)) (aqy hs i) fun T f T' s hT hs=>?_
   subst hT
   exact Ok.iff fun h=>Ok.chk h (last f s hs)
 | o x =>
  cases x with
  | sl b n cp =>
   cases b with
   | none=>exact aC9 rfl
   | some b=>exact Ok.none
  | _=>exact aC9 rfl
 | p _ _ _=>exact aC9 rfl
 | _=>exact Ok.none
theorem aln (hs:RS B s f) (t j:Nat) {x:AV} {v:FV} (hx:RV x v):Ok B RV (fun k=>V.opt (aQk P t j) fun off=>abl v off f k) (CE.lift (a6q P t x j) s):=by
 obtain ⟨rfl,ov⟩:=hx
 refine Ok.opt fun off ho=>?_
 unfold aQk at ho
 cases v with
 | p q i o =>
  have hq:q=p4 i:=ov
  subst hq
  split at ho
  ·rename_i fs x1 x2 x3 hty
   split at ho
   ·rename_i a b hp
    cases ho
    refine Ok.eq (Ok.ret (aRu i (o+off)) hs) ?_
    show _=CE.lift (a6q P t (.p (some (i,o))) j) s
    unfold a6q
    rw [hty];dsimp only;rw [hp];rfl
   ·cases ho
  ·cases ho
 | _=>exact Ok.none
theorem ay9 (hs:RS B s f) {y:Option AV} {t:FV} {n:Nat} (ht:a3j t n) (b:Bool) (off size:Nat) (hy:eqA.part b size off (a07 t 0 n)=y):Ok B RV (prt t n b off size f) (CE.lift y s):=by
 subst hy
 cases b with
 | false =>
  show Ok B RV (fun k=>V.iff (Nat.ble (off+1) n) (k (a1d (p4 off) t) f)) _
  refine Ok.iff fun h=>?_
  have hb:=a6e h
  refine Ok.eq (Ok.ret (ait (ht off hb)) hs) ?_
  show _=CE.lift (a07 t 0 n)[off]? s
  rw [a0m,if_pos (show off < n from hb),Nat.zero_add];rfl
 | true =>
  show Ok B RV (fun k=>V.iff (Nat.ble (off+size) n) (k (.g (aCo t off size) size) f)) _
  refine Ok.iff fun h=>?_
  have hb:=a6e h
  have hc:RV (.g (a07 t off size)) (.g (aCo t off size) size):=⟨by show _=AV.g _;rw [amx],aKd ht hb⟩
  refine Ok.eq (Ok.ret hc hs) ?_
  show _=CE.lift (match cut (a07 t 0 n) off size with | some l=>some (AV.g l) | none=>none) s
  rw [abz hb];rfl
theorem aFy (hs:RS B s f) (t j:Nat) {x:AV} {v:FV} (hx:RV x v):Ok B RV (fun k=>V.opt (b44 P t j) fun z=>prV v z.1 z.2.1 z.2.2 f k) (CE.lift (ai3 P t x j) s):=by
 obtain ⟨rfl,ov⟩:=hx
 refine Ok.opt fun z hz=>?_
 cases v with
 | g tr n =>
  unfold b44 at hz
  split at hz
  ·rename_i fs x1 x2 x3 hty
   cases hj:fs[j]? with
   | none=>rw [hj] at hz;cases hz
   | some q =>
    obtain ⟨ft,off⟩:=q
    rw [hj] at hz
    dsimp only at hz
    cases hft:a1q P ft with
    | none=>rw [hft] at hz;cases hz
    | some ty =>
     rw [hft] at hz
     cases hz
     refine ay9 hs ov (agg ty.d) off ty.size ?_
     show _=ai3 P t (.g (a07 tr 0 n)) j
     unfold ai3
     rw [hty];dsimp only;rw [hj];dsimp only
     unfold ato
     rw [hft]
  ·cases hz
 | _=>exact Ok.none
theorem alm (hs:RS B s f) (t:Nat) {x ix:AV} {v w:FV} (hx:RV x v) (hi:RV ix w):Ok B RV (fun k=>V.opt (b3m P t) fun z=>alr w fun j=>iaT z v j f k) (CE.lift (a5r P t x ix) s):=by
 obtain ⟨rfl,ov⟩:=hx
 obtain ⟨rfl,ow⟩:=hi
 refine Ok.opt fun z hz=>?_
 intro k r hk
 obtain ⟨kd,j,rfl,hk⟩:=aja hk
 unfold b3m at hz
 cases hty:a1q P t with
 | none=>rw [hty] at hz;cases hz
 | some ty =>
  rw [hty] at hz
  dsimp only at hz
  have hia:a5r P t (a2t v) (a2t (.i kd j))=(match ty.d,a2t v with
   | .arr n e,.p (some (k,o))=>match a5i P e,Nat.ble (j+1) n with
    | some size,true=>some (.p (some (k,o+j * size)))
    | _,_=>none
   | .slice e,.sl (some (k,o)) n _=>match a5i P e,Nat.ble (j+1) n with
    | some size,true=>some (.p (some (k,o+j * size)))
    | _,_=>none
   | _,_=>none):=by
   show a5r P t (a2t v) (.i kd (.ofNat j))=_
   unfold a5r
   rw [hty];rfl
  rw [hia]
  cases hd:ty.d with
  | arr n e =>
   rw [hd] at hz
   dsimp only at hz
   cases hse:a5i P e with
   | none=>rw [hse] at hz;cases hz
   | some size =>
    rw [hse] at hz
    cases hz
    cases v with
    | p q i o =>
     have hq:q=p4 i:=ov
     subst hq
     obtain ⟨h1,h2⟩:=a2i (show V.iff (Nat.ble (j+1) n) (k (.p (p4 i) i (o+j * size)) f)=some r from hk)
     refine ⟨_,f,_,s,?_,aRu i (o+j * size),hs,h2⟩
     show CE.lift (match a5i P e,Nat.ble (j+1) n with | some size,true=>some (AV.p (some (i,o+j * size))) | _,_=>none) s=_
     rw [hse,h1];rfl
    | _=>cases hk
  | slice e =>
   rw [hd] at hz
   dsimp only at hz
   cases hse:a5i P e with
   | none=>rw [hse] at hz;cases hz
   | some size =>
    rw [hse] at hz
    cases hz
    cases v with
    | s q i o n c =>
     have hq:q=p4 i:=ov
     subst hq
     obtain ⟨h1,h2⟩:=a2i (show V.iff (Nat.ble (j+1) n) (k (.p (p4 i) i (o+j * size)) f)=some r from hk)
     refine ⟨_,f,_,s,?_,aRu i (o+j * size),hs,h2⟩
     show CE.lift (match a5i P e,Nat.ble (j+1) n with | some size,true=>some (AV.p (some (i,o+j * size))) | _,_=>none) s=_
     rw [hse,h1];rfl
    | _=>cases hk
  | _=>rw [hd] at hz;cases hz
theorem aFx (hs:RS B s f) (t:Nat) {x ix:AV} {v w:FV} (hx:RV x v) (hi:RV ix w):Ok B RV (fun k=>Option.rec (motive:=fun _=>Ans) (ixS P t v w f k) (fun z=>alr w fun j=>V.iff (Nat.ble (Nat.succ j) z.1) (prV v z.2.1 (Nat.mul j z.2.2) z.2.2 f k)) (aZn P t)) (CE.lift (afp P t x ix) s):=by
 obtain ⟨rfl,ov⟩:=hx
 obtain ⟨rfl,ow⟩:=hi
 cases hz:aZn P t with
 | none=>exact a8h hs
 | some z =>
  intro k r hk
  obtain ⟨kd,j,rfl,hk⟩:=aja (show alr w _=some r from hk)
  obtain ⟨h1,hk⟩:=a2i hk
  unfold aZn at hz
  split at hz
  ·rename_i n e x1 x2 x3 hty
   cases hte:a1q P e with
   | none=>rw [hte] at hz;cases hz
   | some ty =>
    rw [hte] at hz
    cases hz
    cases v with
    | g tr m =>
     refine ay9 hs ov (agg ty.d) (j * ty.size) ty.size ?_ k r hk
     show _=afp P t (.g (a07 tr 0 m)) (.i kd (.ofNat j))
     unfold afp
     rw [hty]
     dsimp only [aG6]
     have h1':Nat.ble (j+1) n=true:=h1
     unfold a5i ato
     rw [hte,h1']
    | _=>cases hk
  ·cases hz
theorem atx (hs:RS B s f) (j:Nat) {x:AV} {v:FV} (hx:RV x v):Ok B RV (exV v j f) ((match x with
  | .t vs=>CE.lift vs[j]?
  | _=>fail) s):=by
 obtain ⟨rfl,ov⟩:=hx
 cases v with
 | t tr n =>
  show Ok B RV (fun k=>V.iff (Nat.ble (j+1) n) (k (a1d (p4 j) tr) f)) (CE.lift ((List.range n).map fun j=>aa5 (a1d (p4 j) tr))[j]? s)
  refine Ok.iff fun h=>?_
  have hb:j < n:=a6e h
  have ho:okG (a1d (p4 j) tr):=ov j hb
  have e:((List.range n).map fun j=>aa5 (a1d (p4 j) tr))[j]? = some (a2t (a1d (p4 j) tr)):=by
   rw [(ana ho).1];simp [hb]
  rw [e]
  exact Ok.ret ⟨rfl,(ana ho).2⟩ hs
 | _=>exact Ok.none
theorem aFw (hs:RS B s f) {x:AV} {v:FV} (hx:RV x v) {α β:Type} {R:α→β→Prop} {g:ME→QW→(β→QW→Ans)→Ans} {y:ME→X α} (h:∀ es f s,RS B s f→Ok B R (g es f) (y es s)):Ok B R (fun k=>mrC v f fun es f=>g es f k) (CE.bnd (alz x) y s):=by
 obtain ⟨rfl,ov⟩:=hx
 unfold mrC alz
 generalize a2t v=x
 cases x with
 | m r =>
  cases r with
  | none=>exact h [] f s hs
  | some r =>
   intro k q hk
   obtain ⟨es,f1,a,s1,e,h1,h2,h3⟩:=ay8 hs r (fun z f=>g z.1 f k) q hk
   subst h1
   obtain ⟨b,f2,c,s2,e2,h4,h5,h6⟩:=h a.1 f1 s1 h2 k q h3
   refine ⟨b,f2,c,s2,?_,h4,h5,h6⟩
   unfold CE.bnd
   dsimp only
   rw [e]
   exact e2
 | _=>exact Ok.none
theorem aye (hs:RS B s f) {a:Fr} {fr:FF} (hf:RF a fr) (t:Nat) (x ix:Operand) (ok:Bool) (c:Cx) (hc:c.P=P):Ok B RV (anj t x ix ok c fr f) (a8i P t (a19 a x) (a19 a ix) ok s):=by
 subst hc
 unfold anj ayt a8i
 rw [← (a0x hf ix).1]
 split
 ·rename_i kt et x1 x2 x3 hty
  rw [hty]
  dsimp only
  cases hk:a1q c.P kt with
  | none=>exact Ok.none
  | some kd =>
   cases hz:aZ1 c.P et with
   | none=>exact Ok.none
   | some z =>
    dsimp only
    refine Ok.iff fun h=>Ok.chk h ?_
    refine aFw hs (a0x hf x) fun es f s hs=>?_
    cases ami kd.d (a19 a ix) es with
    | none=>exact Ok.none
    | some o=>cases o<;>cases ok<;>exact Ok.ret (ax3 _) hs
 ·exact Ok.none
theorem alj (hs:RS B s f) {a:Fr} {fr:FF} (hf:RF a fr) (t:Nat) (mp kx v:Operand) (c:Cx) (hc:c.P=P):Ok B RV (ace t mp kx v c fr f) (CE.bnd (CE.chk (sc (a19 a kx)&&sc (a19 a v))) (fun _=>CE.bnd (a3x P t (a19 a mp) (a19 a kx) (a19 a v)) fun _=>CE.ret .u) s):=by
 subst hc
 unfold ace ayr a3x
 rw [← (a0x hf kx).1,← (a0x hf v).1,← (a0x hf mp).1]
 refine Ok.iff fun h=>Ok.chk h ?_
 generalize a19 a mp=m
 generalize a19 a kx=kv
 generalize a19 a v=vv
 split
 ·rename_i kt x0 x1 x2 x3 r hty
  rw [hty]
  dsimp only
  cases hk:a1q c.P kt with
  | none=>exact Ok.none
  | some kd =>
   dsimp only
   intro k q hq
   obtain ⟨h1,hq⟩:=a2i hq
   obtain ⟨es,f1,b,s1,e,h2,h3,h4⟩:=ay8 hs r (fun z s=>match aBu kd.d kv vv z.2 z.1 with
     | some (es',c)=>wmC r es' c s (k .e)
     | none=>none) q hq
   subst h2
   obtain ⟨es,clock⟩:=b
   dsimp only at h4
   cases hu:aBu kd.d kv vv clock es with
   | none=>rw [hu] at h4;cases h4
   | some z =>
    obtain ⟨es',c'⟩:=z
    rw [hu] at h4
    obtain ⟨f2,s2,e2,h5,h6⟩:=aUz h3 r es' c' _ _ h4
    refine ⟨.e,f2,.u,s2,?_,aTh,h5,h6⟩
    rw [h1]
    show CE.bnd (CE.bnd (rdM r) _) _ s=_
    unfold CE.bnd
    rw [e]
    dsimp only
    rw [hu]
    dsimp only
    rw [e2]
    rfl
 ·exact Ok.none
end V
end Go.CE
namespace Go.CE
namespace V
variable [Sym] [a0n]
variable {B:Nat} {s:St} {f:QW} {P:Program}
theorem aPd (hs:RS B s f) (t:Nat) {x:AV} {v:FV} (hx:RV x v):Ok B RV (au8 P t v f) (ayz P t x s):=by
 obtain ⟨rfl,ov⟩:=hx
 unfold au8 ayz
 cases a1q P t with
 | none=>exact Ok.none
 | some ty =>
  dsimp only
  obtain ⟨d,x1,x2,x3⟩:=ty
  dsimp only
  generalize a2t v=x
  cases d with
  | str=>cases x<;>first | exact Ok.none | exact Ok.ret (aka _ _) hs
  | arr n e=>cases x<;>exact Ok.ret (aka _ _) hs
  | slice e=>cases x<;>first | exact Ok.none | exact Ok.ret (aka _ _) hs
  | map a b =>
   cases x with
   | m r =>
    cases r with
    | none=>exact Ok.ret (aka .i64 0) hs
    | some r =>
     intro k q hk
     obtain ⟨es,f1,c,s1,e,h1,h2,h3⟩:=ay8 hs r (fun z f=>k (.i .i64 z.1.length) f) q hk
     subst h1
     refine ⟨_,f1,.i .i64 (.ofNat c.1.length),s1,?_,aka _ _,h2,h3⟩
     show CE.bnd (rdM r) (fun x=>CE.ret (AV.i .i64 (.ofNat x.1.length))) s=_
     unfold CE.bnd
     rw [e];rfl
   | _=>exact Ok.none
  | _=>exact Ok.none
theorem aVa (hs:RS B s f) (t:Nat) {x:AV} {v:FV} (hx:RV x v):Ok B RV (aM8 v P t f) (ayz P t x s):=by
 have h:=aPd (P:=P) hs t hx
 cases v with
 | s q i o n c =>
  show Ok B RV (fun k=>Bool.rec (motive:=fun _=>Ans) (au8 P t (.s q i o n c) f k) (k (.i .i64 n) f) (slD P t)) _
  cases hd:slD P t with
  | false=>exact h
  | true =>
   refine Ok.eq (Ok.ret (aka .i64 n) hs) ?_
   obtain ⟨rfl,_⟩:=hx
   unfold slD at hd
   split at hd
   ·rename_i e x1 x2 x3 hty
    unfold ayz
    rw [hty];rfl
   ·cases hd
 | _=>exact h
def aYc (a:Nat×List AV) (b:Nat×FV×Nat):Prop:=a.1=b.1∧a.2=a07 b.2.1 0 b.2.2∧a3j b.2.1 b.2.2
theorem akr (x:List Nat):a07 (a0r (x.map fun c=>.i .u8 (.ofNat c))) 0 x.length=(x.map fun c=>AV.i .u8 (.ofNat c))∧a3j (a0r (x.map fun c=>.i .u8 (.ofNat c))) x.length:=by
 have h:a1f (x.map fun c=>AV.i .u8 (.ofNat c))=true:=a9j fun v hv=>by obtain ⟨c,_,rfl⟩:=List.mem_map.mp hv;rfl
 have:=a1g _ h
 rw [List.length_map] at this
 exact this
theorem aKe (hs:RS B s f) (size:Nat) {x:AV} {v:FV} (hx:RV x v):Ok B aYc (fun k=>b1l v size f fun n t c f=>k (n,t,c) f) (aBi size x s):=by
 obtain ⟨rfl,ov⟩:=hx
 cases v with
 | s q i o n c =>
  have hq:q=p4 i:=ov
  subst hq
  refine Ok.bnd (g:=fun v f k=>k (n,aH7 v,n * size) f) (a7v hs i o (n * size)) fun v f l s hv hs=>?_
  obtain ⟨t,rfl,rfl,ht⟩:=hv
  exact Ok.ret (show aYc (n,_) (n,t,n * size) from ⟨rfl,rfl,ht⟩) hs
 | o a =>
  cases a with
  | sl b n c =>
   cases b with
   | none =>
    cases n with
    | zero=>exact Ok.ret (show aYc (0,[]) (0,.e,0) from ⟨rfl,rfl,fun j h=>absurd (show j < 0 from h) (by omega)⟩) hs
    | succ n=>exact Ok.none
   | some b=>exact Ok.none
  | se=>exact Ok.ret (show aYc (0,[]) (0,.e,0) from ⟨rfl,rfl,fun j h=>absurd (show j < 0 from h) (by omega)⟩) hs
  | s x=>exact Ok.ret (show aYc (x.length,_) (x.length,a0r _,x.length) from ⟨rfl,(akr x).1.symm,(akr x).2⟩) hs
  | _=>exact Ok.none
 | _=>exact Ok.none
theorem ai7 {t:FV} {n:Nat} : ∃ l,a07 t 0 (n+1)=a6g (a1d (p4 0) t) :: l:=by
 cases hc:a07 t 0 (n+1) with
 | nil=>have:=a0q t 0 (n+1);rw [hc] at this;simp at this
 | cons a l =>
  have h0:=a0m t 0 (n+1) 0
  rw [hc] at h0
  simp at h0
  exact ⟨l,by rw [h0]⟩
theorem azq (old new:FV) (off nc j:Nat) (h:j < off+nc):a1d (p4 j) (jnT old new off nc)=if off≤j then a1d (p4 (j - off)) new else a1d (p4 j) old:=by
 unfold jnT
 cases e:Nat.beq off 0 with
 | false =>
  show a1d (p4 j) (ovT old new off nc)=_
  rw [afv]
  by_cases h1:off≤j
  ·rw [if_pos h1,if_pos ⟨h1,h⟩]
  ·rw [if_neg h1,if_neg (by omega)]
 | true=>have:=a92 e;subst this;show a1d (p4 j) new=_;rw [if_pos (by omega),Nat.sub_zero]
theorem as8 {old new:FV} {off nc:Nat} (ho:a3j old off) (hn:a3j new nc):a07 (jnT old new off nc) 0 (off+nc)=a07 old 0 off++a07 new 0 nc∧a3j (jnT old new off nc) (off+nc):=by
 constructor
 ·apply List.ext_getElem?
  intro j
  rw [a0m]
  by_cases hj:j < off+nc
  ·rw [if_pos hj,Nat.zero_add,azq _ _ _ _ _ hj]
   by_cases h1:off≤j
   ·rw [if_pos h1,List.getElem?_append_right (by rw [a0q];exact h1),a0q,a0m,if_pos (by omega),Nat.zero_add]
   ·rw [if_neg h1,List.getElem?_append_left (by rw [a0q];omega),a0m,if_pos (by omega),Nat.zero_add]
  ·rw [if_neg hj]
   exact (List.getElem?_eq_none (by simp [a0q];omega)).symm
 ·intro j hj
  rw [azq _ _ _ _ _ hj]
  by_cases h1:off≤j
  ·rw [if_pos h1];exact hn _ (by omega)
  ·rw [if_neg h1];exact ho _ (by omega)
theorem ar1 (hs:RS B s f) {old new:FV} {off nc:Nat} (e cnt:Nat) (ho:a3j old off) (hn:a3j new nc):Ok B RV (aR6 old new off nc e cnt f) (CE.bnd (a4o true (.cells (a07 old 0 off++a07 new 0 nc) e)) (fun q=>CE.ret (AV.sl (some (q,0)) cnt cnt)) s) :=
 a1v hs true e (as8 ho hn).1 (as8 ho hn).2 (x:=fun q i f k=>k (FV.s q i 0 cnt cnt) f) fun i f s hs=>Ok.ret (aIo i 0 cnt cnt) hs
theorem aVg (hs:RS B s f) (e size cnt nc:Nat) {new:FV} (hn:a3j new nc) {d:AV} {v:FV} (hd:RV d v):Ok B RV (apV v e size cnt new nc f) ((match d with
    | .sl base n c=>match Nat.ble (n+cnt) c with
     | true=>match base with
      | some (b,o)=>match a07 new 0 nc with
       | []=>CE.ret (AV.sl base (n+cnt) c)
       | _ :: _=>CE.bnd (wrK b (o+n * size) (a07 new 0 nc)) fun _=>CE.ret (AV.sl base (n+cnt) c)
      | none=>CE.ret (AV.sl base (n+cnt) c)
     | false=>CE.bnd (CE.chk (Nat.ble (n+cnt) 1000000)) fun _=>match base with
      | none=>match n with
       | 0=>CE.bnd (a4o true (.cells (a07 new 0 nc) e)) fun q=>CE.ret (AV.sl (some (q,0)) cnt cnt)
       | _+1=>fail
      | some (b,o)=>CE.bnd (rdK b o (n * size)) fun old=>match gw b with
       | true=>CE.bnd (rdT b) fun T=>CE.bnd (CE.chk (Nat.beq T e&&Nat.ble roB b)) fun _=>CE.bnd (agu b) fun _=>CE.bnd (a4o true (.cells (old++a07 new 0 nc) e)) fun q=>CE.ret (AV.sl (some (q,0)) (n+cnt) (n+cnt))
       | false=>CE.bnd (a4o true (.cells (old++a07 new 0 nc) e)) fun q=>CE.ret (AV.sl (some (q,0)) (n+cnt) (n+cnt))
    | _=>fail) s):=by
 obtain ⟨rfl,ov⟩:=hd
 cases v with
 | s q b o n c =>
  have hq:q=p4 b:=ov
  subst hq
  show Ok B RV (fun k=>apS (p4 b) b o n c e size cnt new nc f k) _
  unfold apS
  show Ok B RV _ ((match Nat.ble (n+cnt) c with
     | true=>match a07 new 0 nc with
       | []=>CE.ret (AV.sl (some (b,o)) (n+cnt) c)
       | _ :: _=>CE.bnd (wrK b (o+n * size) (a07 new 0 nc)) fun _=>CE.ret (AV.sl (some (b,o)) (n+cnt) c)
     | false=>CE.bnd (CE.chk (Nat.ble (n+cnt) 1000000)) fun _=>CE.bnd (rdK b o (n * size)) fun old=>match gw b with
       | true=>CE.bnd (rdT b) fun T=>CE.bnd (CE.chk (Nat.beq T e&&Nat.ble roB b)) fun _=>CE.bnd (agu b) fun _=>CE.bnd (a4o true (.cells (old++a07 new 0 nc) e)) fun q=>CE.ret (AV.sl (some (q,0)) (n+cnt) (n+cnt))
       | false=>CE.bnd (a4o true (.cells (old++a07 new 0 nc) e)) fun q=>CE.ret (AV.sl (some (q,0)) (n+cnt) (n+cnt))) s)
  cases Nat.ble (n+cnt) c with
  | true =>
   dsimp only
   cases nc with
   | zero=>exact Ok.ret (aIo b o _ _) hs
   | succ nc =>
    obtain ⟨l,hl⟩:=ai7 (t:=new) (n:=nc)
    have hw:=ay6 hs b (o+n * size) (nc+1) hn
    rw [hl] at hw ⊢
    exact OkS.bnd (g:=fun f k=>k (FV.s (p4 b) b o (n+cnt) c) f) hw fun f s hs=>Ok.ret (aIo b o _ _) hs
  | false =>
   dsimp only
   refine Ok.iff fun h=>Ok.chk h ?_
   refine Ok.bnd (a7v hs b o (n * size)) fun v f l s hv hs=>?_
   obtain ⟨t,rfl,rfl,ht⟩:=hv
   cases gw b with
   | false=>exact ar1 hs e _ ht hn
   | true =>
    refine Ok.bnd (aqy hs b) fun T f T' s hT hs=>?_
    subst hT
    refine Ok.iff fun h1=>Ok.iff fun h2=>Ok.chk (by rw [h1];exact h2) ?_
    exact OkS.bnd (aPe hs b) fun f s hs=>ar1 hs e _ ht hn
 | o a =>
  cases a with
  | sl bs n c =>
   cases bs with
   | some b=>exact Ok.none
   | none =>
    clear ov
    show Ok B RV (fun k=>Bool.rec (motive:=fun _=>Ans) (V.iff (Nat.ble (n+cnt) 1000000) (V.iff (Nat.beq n 0) (a9h true (.cells new nc e) f fun q i s=>k (.s q i 0 cnt cnt) s))) (k (.o (.sl none (n+cnt) c)) f) (Nat.ble (n+cnt) c)) ((match Nat.ble (n+cnt) c with
     | true=>CE.ret (AV.sl none (n+cnt) c)
     | false=>CE.bnd (CE.chk (Nat.ble (n+cnt) 1000000)) fun _=>match n with
       | 0=>CE.bnd (a4o true (.cells (a07 new 0 nc) e)) fun q=>CE.ret (AV.sl (some (q,0)) cnt cnt)
       | _+1=>fail) s)
    cases Nat.ble (n+cnt) c with
    | true=>exact Ok.ret ⟨rfl,rfl⟩ hs
    | false =>
     dsimp only
     refine Ok.iff fun h=>Ok.chk h ?_
     cases n with
     | zero=>exact a1v hs true e rfl hn (x:=fun q i f k=>k (FV.s q i 0 cnt cnt) f) fun i f s hs=>Ok.ret (aIo i 0 cnt cnt) hs
     | succ n=>exact Ok.none
  | _=>exact Ok.none
 | _=>exact Ok.none
theorem ayj (hs:RS B s f) (t xt:Nat) {d x:AV} {v w:FV} (hd:RV d v) (hx:RV x w):Ok B RV (agc P t xt v w f) (a8o P t xt d x s):=by
 refine Ok.opt fun z hz=>?_
 unfold apOf at hz
 unfold a8o
 split at hz
 ·rename_i e x1 x2 x3 hty
  rw [hty]
  dsimp only
  cases hte:a1q P e with
  | none=>rw [hte] at hz;cases hz
  | some ty =>
   rw [hte] at hz
   dsimp only at hz ⊢
   cases hc:(!afn P xt&&Nat.beq ty.zero.length ty.size&&Nat.ble ty.bytes 100000) with
   | false=>rw [hc] at hz;cases hz
   | true =>
    rw [hc] at hz
    cases hz
    refine Ok.chk rfl ?_
    refine Ok.bnd (g:=fun z f k=>V.iff (Nat.beq z.2.2 (Nat.mul z.1 ty.size)) (apV v e ty.size z.1 z.2.1 z.2.2 f k)) (aKe hs ty.size hx) fun z f a s h hs=>?_
    obtain ⟨cnt,new,nc⟩:=z
    obtain ⟨k,l⟩:=a
    obtain ⟨rfl,rfl,hn⟩:=(show k=cnt∧l=a07 new 0 nc∧a3j new nc from h)
    refine Ok.iff fun h1=>?_
    refine Ok.chk (by rw [a97 hn,a0q];exact h1) ?_
    exact aVg hs e ty.size k nc hn hd
 ·cases hz
theorem aPf (hs:RS B s f) (t:Nat) {d x:AV} {v w:FV} (hd:RV d v) (hx:RV x w):Ok B RV (aXw P t v w f) (ajw P t d x s):=by
 refine Ok.opt fun size hz=>?_
 unfold cpOf at hz
 unfold ajw
 split at hz
 ·rename_i e x1 x2 x3 hty
  rw [hty]
  dsimp only
  cases hte:a1q P e with
  | none=>rw [hte] at hz;cases hz
  | some ty =>
   rw [hte] at hz
   cases hz
   dsimp only
   refine Ok.bnd (g:=fun z f k=>V.iff (Nat.beq z.2.2 (Nat.mul z.1 ty.size)) (cpV v ty.size z.1 z.2.1 f k)) (aKe hs ty.size hx) fun z f a s h hs=>?_
   obtain ⟨cnt,new,nc⟩:=z
   obtain ⟨k,l⟩:=a
   obtain ⟨rfl,rfl,hn⟩:=(show k=cnt∧l=a07 new 0 nc∧a3j new nc from h)
   refine Ok.iff fun h1=>?_
   refine Ok.chk (by rw [a97 hn,a0q];exact h1) ?_
   have hnc:nc=k * ty.size:=a92 h1
   obtain ⟨rfl,ov⟩:=hd
   cases v with
   | s q b o n c =>
    have hq:q=p4 b:=ov
    subst hq
    show Ok B RV (fun kk=>Nat.rec (motive:=fun _=>Ans) (kk (.i .i64 (ar9 k n)) f) (fun _ _=>aMu (p4 b) b o new (Nat.mul (ar9 k n) ty.size) f (kk (.i .i64 (ar9 k n)))) (Nat.mul (ar9 k n) ty.size)) ((match cut (a07 new 0 nc) 0 (min k n * ty.size) with
     | some []=>CE.ret (AV.i .i64 (.ofNat (min k n)))
     | some (v :: vs)=>CE.bnd (wrK b o (v :: vs)) fun _=>CE.ret (AV.i .i64 (.ofNat (min k n)))
     | none=>fail) s)
    rw [aoq]
    have hle:0+min k n * ty.size≤nc:=by rw [hnc,Nat.zero_add];exact Nat.mul_le_mul_right _ (Nat.min_le_left _ _)
    rw [abz hle]
    have hok:a3j new (min k n * ty.size):=fun j hj=>hn j (by omega)
    show Ok B RV (fun kk=>Nat.rec (motive:=fun _=>Ans) (kk (.i .i64 (min k n)) f) (fun _ _=>aMu (p4 b) b o new (min k n * ty.size) f (kk (.i .i64 (min k n)))) (min k n * ty.size)) _
    generalize min k n * ty.size=m at hok
    cases m with
    | zero=>exact Ok.ret (aka _ _) hs
    | succ m =>
     obtain ⟨l,hl⟩:=ai7 (t:=new) (n:=m)
     have hw:=ay6 hs b o (m+1) hok
     rw [hl] at hw ⊢
     exact OkS.bnd (g:=fun f k'=>k' (FV.i .i64 (min k n)) f) hw fun f s hs=>Ok.ret (aka _ _) hs
   | o a =>
    cases a with
    | sl bs n c =>
     cases bs with
     | some b=>exact Ok.none
     | none =>
      cases n with
      | zero=>exact Ok.ret (aka .i64 0) hs
      | succ n=>exact Ok.none
    | se=>exact Ok.ret (aka .i64 0) hs
    | _=>exact Ok.none
   | _=>exact Ok.none
 ·cases hz
def RVs (a:List AV) (l:List FV):Prop:=a=l.map a2t∧∀ v∈l,okV v
theorem b35 (hs:RS B s f) (bi:Builtin) (ts:List Nat) {a:List AV} {l:List FV} (h:RVs a l):Ok B RV (biC bi ts l P f) (a6o P bi ts a s):=by
 obtain ⟨rfl,ho⟩:=h
 have rv:∀ v∈l,RV (a2t v) v:=fun v hv=>⟨rfl,ho v hv⟩
 unfold biC a6o
 split
 ·exact aVa hs _ (rv _ (by simp))
 ·exact ayj hs _ _ (rv _ (by simp)) (rv _ (by simp))
 ·exact aPf hs _ (rv _ (by simp)) (rv _ (by simp))
 ·exact a8h hs
 ·exact a8h hs
 ·exact Ok.none
end V
end Go.CE
namespace Go.CE
namespace V
variable [Sym] [a0n]
variable {B:Nat} {s:St} {f:QW}
def a6j (q:CF) (y:Nat→List AV→X AV):Prop:=∀ (B:Nat) (s:St) (f:QW) (k:Nat) (a:List AV) (l:List FV),RS B s f→RVs a l→Ok B RV (q k l f) (y k a s)
theorem RVs.nil:RVs [] []:=⟨rfl,fun _ h=>by cases h⟩
theorem RVs.cons {a:AV} {v:FV} {as:List AV} {vs:List FV} (h:RV a v) (hs:RVs as vs):RVs (a :: as) (v :: vs):=⟨by rw [h.1,hs.1];rfl,fun w hw=>by
 rcases List.mem_cons.mp hw with rfl | hw
 ·exact h.2
 ·exact hs.2 w hw⟩
theorem RVs.append {as bs:List AV} {vs ws:List FV} (h:RVs as vs) (h2:RVs bs ws):RVs (as++bs) (vs++ws):=⟨by rw [h.1,h2.1,List.map_append],fun w hw=>by
 rcases List.mem_append.mp hw with hw | hw
 ·exact h.2 w hw
 ·exact h2.2 w hw⟩
theorem air {a:Fr} {fr:FF} (hf:RF a fr):∀ l:List Operand,RVs (l.map (a19 a)) (ak6 l fr)
 | []=>RVs.nil
 | x :: l=>RVs.cons (a0x hf x) (air hf l)
theorem aB1:∀ l r:List FV,b04 l r=l++r
 | [],r=>rfl
 | x :: l,r=>by show x :: b04 l r=_;rw [aB1 l r];rfl
theorem abh {bs:List AV} {r:List FV} (h:RVs bs r):∀ as:List AV,RVs (as++bs) (aor as r)
 | []=>h
 | x :: as=>RVs.cons (ax3 x) (abh h as)
theorem aFz (hs:RS B s f) {qc qy:CF} {call yl:Nat→List AV→X AV} (hc:a6j qc call) (hy:a6j qy yl) {g:AV} {v:FV} (hg:RV g v) {a:List AV} {l:List FV} (h:RVs a l):Ok B RV (aAo v l qc qy f) ((match g with
   | .f fn x cp=>call fn (x++a++cp)
   | .y l=>yl l a
   | _=>fail) s):=by
 obtain ⟨rfl,ov⟩:=hg
 cases v with
 | o x =>
  cases x with
  | f fn x cp =>
   show Ok B RV (qc fn (aor x (b04 l (aor cp []))) f) (call fn (x++a++cp) s)
   refine hc B s f fn _ _ hs ?_
   rw [List.append_assoc,aB1]
   refine abh (h.append ?_) x
   have:=abh RVs.nil cp
   rwa [List.append_nil] at this
  | y l'=>exact hy B s f l' _ _ hs h
  | _=>exact Ok.none
 | _=>exact Ok.none
theorem b33 {P:Program} (hs:RS B s f) {a:Fr} {fr:FF} (hf:RF a fr) {c:Cx} {call yl:Nat→List AV→X AV} (hP:c.P=P) (hc:a6j c.call call) (hy:a6j c.yl yl) (o:Op):Ok B RV (opC o c fr f) (a8u P call yl a o s):=by
 subst hP
 cases o with
 | move x=>exact Ok.ret (a0x hf x) hs
 | assign x=>exact Ok.ret (a0x hf x) hs
 | pick x y z =>
  show Ok B RV (fun k=>_) ((match a19 a x with
   | .b true=>CE.ret (a19 a y)
   | .b false=>CE.ret (a19 a z)
   | _=>fail) s)
  obtain ⟨e,ov⟩:=a0x hf x
  rw [e]
  show Ok B RV (aMs x y z c fr f) _
  unfold aMs
  generalize oV x fr=v at ov
  cases v with
  | b v =>
   cases v with
   | true=>exact Ok.ret (a0x hf y) hs
   | false=>exact Ok.ret (a0x hf z) hs
  | _=>exact Ok.none
 | alloc t=>exact aG1 hs t c fr rfl
 | box t x=>exact aVe hs t (a0x hf x)
 | build t ps=>exact aG0 hs hf t ps c rfl
 | buildSlice t len ps=>exact aj8 hs hf t len ps c rfl
 | load t x=>exact ayf hs t (a0x hf x)
 | store t x y =>
  show Ok B RV (avh t x y c fr f) ((match a1q c.P t with
   | some ty=>CE.bnd (abd ty (a19 a x) (a19 a y)) fun _=>CE.ret AV.u
   | none=>fail) s)
  unfold avh aim
  cases a1q c.P t with
  | none=>exact Ok.none
  | some ty=>exact aFu hs ty (a0x hf x) (a0x hf y)
 | nilCheck x=>exact aV7 hs (a0x hf x)
 | binOp op t x y u=>exact aVf hs op t (a0x hf x) (a0x hf y)
 | unOp op t x=>exact b2y (t:=t) hs op (a0x hf x)
 | convert x y z=>exact aPg hs x y z hf c rfl
 | makeFunc fn x y =>
  cases fn with
  | func g =>
   show Ok B RV (fun k=>k (.o (.f g (aSb (ak6 x.toList fr)) (aSb (ak6 y.toList fr)))) f) (CE.ret (AV.f g (x.toList.map (a19 a)) (y.toList.map (a19 a))) s)
   rw [apv hf,apv hf]
   exact Ok.ret ⟨rfl,rfl⟩ hs
  | _=>exact Ok.none
 | makeMap t r =>
  cases r with
  | none =>
    intro k r hk
    obtain ⟨i,f',s',e,h1,h2⟩:=ayd hs false (.map [] 0) _ r hk
    refine ⟨.o (.m (some i)),f',.m (some i),s',?_,⟨rfl,rfl⟩,h1,h2⟩
    show CE.bnd (a4o false (.map [] 0)) (fun k=>CE.ret (AV.m (some k))) s=_
    unfold CE.bnd
    rw [e];rfl
  | some x=>exact Ok.none
 | makeSlice t l cp=>exact alk hs hf t l cp c rfl
 | slice t x lo hi mx=>exact ok_slice hs hf t x lo hi mx c rfl
 | fieldAddr t x j=>exact aln hs t j (a0x hf x)
 | field t x j=>exact aFy hs t j (a0x hf x)
 | indexAddr t x ix=>exact alm hs t (a0x hf x) (a0x hf ix)
 | index t x ix=>exact aFx hs t (a0x hf x) (a0x hf ix)
 | lookup t x ix ok=>exact aye hs hf t x ix ok c rfl
 | mapUpdate t m k v=>exact alj hs hf t m k v c rfl
 | extract x j=>exact atx hs j (a0x hf x)
 | call cl =>
  obtain ⟨callee,args,ts⟩:=cl
  cases callee with
  | value g=>exact aFz hs hc hy (a0x hf g) (air hf args.toList)
  | invoke r m=>exact Ok.none
  | builtin bi=>exact b35 hs bi ts.toList (air hf args.toList)
 | _=>exact Ok.none
theorem ayh (hs:RS B s f) {a:Fr} {fr:FF} (hf:RF a fr) (d:Option Nat) {x:AV} {v:FV} (hx:RV x v):Ok B RF (avb d fr v f) (a.lay d x s):=by
 cases d with
 | none=>exact Ok.ret hf hs
 | some i =>
  obtain ⟨t,nt,mks⟩:=fr
  obtain ⟨ta,nta,ma⟩:=a
  have h1:nta=nt:=hf.nt
  have h2:ma=mks:=hf.mks
  subst h1;subst h2
  show Ok B RF (fun k=>V.iff (Nat.ble (i+1) nta) (k ⟨ab8 (p4 i) v t,nta,ma⟩ f)) ((match Nat.ble (i+1) nta with
   | true=>CE.ret (Fr.mk (ta.set i (some x)) nta ma)
   | false=>fail) s)
  cases Nat.ble (i+1) nta with
  | false=>exact Ok.none
  | true =>
   refine Ok.ret ⟨rfl,rfl,fun j=>?_⟩ hs
   show (match (ta.set i (some x)).get j with | some v=>v | none=>AV.u)=a2t (a1d (p4 j) (ab8 (p4 i) v t))∧_
   rw [Tr.a0u]
   dsimp only
   rw [a0u]
   by_cases hj:j=i
   ·rw [if_pos hj,if_pos hj];exact hx
   ·rw [if_neg hj,if_neg hj];exact hf.slot j
theorem aXr (a b:Bool):eqB a b=(a == b):=by cases a<;>cases b<;>rfl
theorem ayb {P:Program} (hs:RS B s f) {a:Fr} {fr:FF} (hf:RF a fr) {c:Cx} {call yl:Nat→List AV→X AV} (hP:c.P=P) (hc:a6j c.call call) (hy:a6j c.yl yl) (o:Oper):Ok B RF (aUy o c fr f) (a7d P call yl c.ops a o s):=by
 obtain ⟨d,op,t,pos,af,g⟩:=o
 have go:Ok B RF (fun k=>opC op c fr f fun v f=>avb d fr v f k) (CE.bnd (a8u P call yl a op) (fun v=>a.lay d v) s) :=
  Ok.bnd (b33 hs hf hP hc hy op) fun v f x s hx hs=>ayh hs hf d hx
 cases g with
 | none=>exact go
 | some g =>
  obtain ⟨j,want⟩:=g
  have no:Ok B RF (avb d fr .e f) (a.lay d .u s):=ayh hs hf d aTh
  show Ok B RF (fun k=>Option.rec (motive:=fun _=>Ans) (avb d fr .e f k) (fun t=>a1p (oT t fr) want (opC op c fr f fun v f=>avb d fr v f k) (avb d fr .e f k)) (aQb c.ops j)) ((match (match c.ops[j]? with
   | none=>some false
   | some q=>match q.dst with
    | none=>some false
    | some t=>match a.at t with
     | .b v=>some (v == want)
     | .bad=>none
     | _=>some false) with
   | some true=>CE.bnd (a8u P call yl a op) fun v=>a.lay d v
   | some false=>a.lay d .u
   | none=>fail) s)
  unfold aQb
  cases c.ops[j]? with
  | none=>exact no
  | some q =>
   dsimp only
   cases q.dst with
   | none=>exact no
   | some t =>
    dsimp only
    obtain ⟨e,ov⟩:=a0x hf (.tmp t)
    have e':a.at t=a2t (oT t fr):=e
    rw [e']
    generalize hv:oT t fr=v
    have ov':okV v:=by rw [← hv];exact ov
    cases v with
    | b v =>
     show Ok B RF (fun k=>Bool.rec (motive:=fun _=>Ans) (avb d fr .e f k) (opC op c fr f fun v f=>avb d fr v f k) (eqB v want)) ((match some (v == want) with
      | some true=>CE.bnd (a8u P call yl a op) fun v=>a.lay d v
      | some false=>a.lay d .u
      | none=>fail) s)
     rw [aXr]
     cases v == want with
     | true=>exact go
     | false=>exact no
    | w x =>
     have hsc:sc x=false:=ov'
     cases x<;>first | exact Ok.none | exact no | (simp [sc] at hsc)
    | o x =>
     have hsc:sc x=true:=ov'
     cases x with
     | b v=>exact Ok.none
     | _=>first | exact no | (simp [sc] at hsc)
    | _=>exact no
theorem aKh {P:Program} {c:Cx} {call yl:Nat→List AV→X AV} (hP:c.P=P) (hc:a6j c.call call) (hy:a6j c.yl yl):∀ (l:List Oper) (B:Nat) (s:St) (f:QW) (a:Fr) (fr:FF),RS B s f→RF a fr→Ok B RF (b2r l c fr f) (aju P call yl c.ops l a s)
 | [],B,s,f,a,fr,hs,hf=>Ok.ret hf hs
 | o :: l,B,s,f,a,fr,hs,hf=>Ok.bnd (g:=fun fr f k=>b2r l c fr f k) (x:=aUy o c fr f) (ayb hs hf hP hc hy o) fun fr f a s hf hs=>aKh hP hc hy l B s f a fr hs hf
end V
end Go.CE
namespace Go.CE
namespace V
variable [Sym] [a0n]
variable {B:Nat} {s:St} {f:QW}
inductive aBm {α β:Type} (R:α→β→Prop):List α→List β→Prop
 | nil:aBm R [] []
 | cons {a:α} {b:β} {as:List α} {bs:List β}:R a b→aBm R as bs→aBm R (a :: as) (b :: bs)
def QR (a:List LE×List LE) (q:QF):Prop:=(∀ e∈a.1,(q.lo≤e.k∧e.k < q.hi)∨e∈q.lg)∧∀ e∈a.2,(q.lo≤e.k∧e.k < q.hi)∨e∈q.wl
theorem a6w {a:LE}:∀ {l:List LE},ajm a l=false→∀ e∈l,hits a e=false
 | b :: l,h,e,he=>by
  unfold ajm at h
  cases hb:hits a b with
  | true=>simp [hb] at h
  | false =>
   simp [hb] at h
   rcases List.mem_cons.mp he with rfl | he
   ·exact hb
   ·exact a6w h e he
theorem afq {a:LE}:∀ {l:List LE},(∀ e∈l,hits a e=false)→ajm a l=false
 | [],_=>rfl
 | b :: l,h=>by
  unfold ajm
  rw [h b (by simp)]
  exact afq fun e he=>h e (by simp [he])
theorem acx:∀ {w l:List LE},clear w l=true→∀ a∈w,∀ e∈l,hits a e=false
 | b :: w,l,h,a,ha,e,he=>by
  unfold clear at h
  cases hb:ajm b l with
  | true=>simp [hb] at h
  | false =>
   simp [hb] at h
   rcases List.mem_cons.mp ha with rfl | ha
   ·exact a6w hb e he
   ·exact acx h a ha e he
theorem ab2:∀ {w l:List LE},(∀ a∈w,∀ e∈l,hits a e=false)→clear w l=true
 | [],l,_=>by unfold clear;rfl
 | b :: w,l,h=>by
  unfold clear
  rw [afq (h b (by simp))]
  exact ab2 fun a ha=>h a (by simp [ha])
theorem acr {a b:LE} (h:a.k≠b.k):hits a b=false:=by unfold hits;rw [aMj h]
theorem a9g {lo hi:Nat}:∀ {l:List LE},afb lo hi l=true→∀ e∈l,¬(lo≤e.k∧e.k < hi)
 | b :: l,h,e,he=>by
  unfold afb at h
  cases hb:(Nat.ble lo b.k&&Nat.ble (b.k+1) hi) with
  | true=>rw [hb] at h;cases h
  | false =>
   rw [hb] at h
   rcases List.mem_cons.mp he with rfl | he
   ·rintro ⟨h1,h2⟩
    have e1:Nat.ble lo e.k=true:=Nat.ble_eq_true_of_le h1
    have e2:Nat.ble (e.k+1) hi=true:=Nat.ble_eq_true_of_le h2
    rw [e1,e2] at hb;cases hb
   ·exact a9g h e he
theorem atp {a b:List LE×List LE} {p q:QF} (ha:QR a p) (hb:QR b q) (h:ald p q=true):clear a.2 b.1=true∧clear b.2 a.1=true:=by
 obtain ⟨lg,wl,lo,hi⟩:=p
 obtain ⟨lg',wl',lo',hi'⟩:=q
 unfold ald at h
 simp only [Bool.and_eq_true,Bool.or_eq_true] at h
 obtain ⟨⟨⟨⟨⟨⟨h1,h2⟩,h3⟩,h4⟩,h5⟩,h6⟩,h7⟩:=h
 have h2:=a9g h2
 have h3:=a9g h3
 have h4:=a9g h4
 have h5:=a9g h5
 have hr:∀ x y:Nat,(lo≤x∧x < hi)→(lo'≤y∧y < hi')→x≠y:=fun x y hx hy=>by
  rcases h1 with h1 | h1
  ·have:=a6e h1;omega
  ·have:=a6e h1;omega
 constructor
 ·refine ab2 fun x hx y hy=>?_
  rcases ha.2 x hx with h8 | h8
  ·rcases hb.1 y hy with h9 | h9
   ·exact acr (hr _ _ h8 h9)
   ·refine acr fun e=>h2 y h9 ?_;rw [← e];exact h8
  ·rcases hb.1 y hy with h9 | h9
   ·refine acr fun e=>h5 x h8 ?_;rw [e];exact h9
   ·exact acx h6 x h8 y h9
 ·refine ab2 fun x hx y hy=>?_
  rcases hb.2 x hx with h8 | h8
  ·rcases ha.1 y hy with h9 | h9
   ·exact acr fun e=>hr _ _ h9 h8 e.symm
   ·refine acr fun e=>h4 y h9 ?_;rw [← e];exact h8
  ·rcases ha.1 y hy with h9 | h9
   ·refine acr fun e=>h3 x h8 ?_;rw [e];exact h9
   ·exact acx h7 x h8 y h9
def FtR (a:aeg) (z:aeg×QF):Prop:=a.ins=z.1.ins∧a.dst=z.1.dst∧QR (a.lg,a.wl) z.2
theorem ac4 {bef:Nat} {b bst:aeg} {q:QF} (hb:FtR b (bst,q)):∀ {pre:List aeg} {zs:List (aeg×QF)} {m:List Bool} {j:Nat},aBm FtR pre zs→prs bef bst (zs.map (·.1)) j=some m→aQp q m (zs.map (·.2))=true→a8p bef b pre j=true
 | _,_,_,_,.nil,_,_=>rfl
 | _,_,m,j,.cons (a:=a) (b:=z) (as:=as) (bs:=zs) h hs,h1,h2=>by
  have h1:(match bef.testBit j with
  | true=>match prs bef bst (zs.map (·.1)) (j+1) with
   | some r=>some (false :: r)
   | none=>none
  | false=>match apg z.1.dst bst.ins&&apg z.1.dst bst.dst&&apg bst.dst z.1.ins with
   | true=>match prs bef bst (zs.map (·.1)) (j+1) with
    | some r=>some (true :: r)
    | none=>none
   | false=>none)=some m:=h1
  unfold a8p
  cases hb2:bef.testBit j with
  | true =>
   rw [hb2] at h1
   dsimp only at h1
   cases hp:prs bef bst (zs.map (·.1)) (j+1) with
   | none=>rw [hp] at h1;cases h1
   | some r =>
    rw [hp] at h1
    cases h1
    rw [Bool.true_or]
    exact ac4 hb hs hp h2
  | false =>
   rw [hb2] at h1
   dsimp only at h1
   cases hd:(apg z.1.dst bst.ins&&apg z.1.dst bst.dst&&apg bst.dst z.1.ins) with
   | false=>rw [hd] at h1;cases h1
   | true =>
    rw [hd] at h1
    dsimp only at h1
    cases hp:prs bef bst (zs.map (·.1)) (j+1) with
    | none=>rw [hp] at h1;cases h1
    | some r =>
     rw [hp] at h1
     cases h1
     have h2:(match ald z.2 q with
      | true=>aQp q r (zs.map (·.2))
      | false=>false)=true:=h2
     cases hpo:ald z.2 q with
     | false=>rw [hpo] at h2;cases h2
     | true =>
      rw [hpo] at h2
      obtain ⟨e1,e2,e3⟩:=h
      obtain ⟨f1,f2,f3⟩:=hb
      obtain ⟨c1,c2⟩:=atp e3 f3 hpo
      have hap:age a b=true:=by
       unfold age
       rw [e1,e2,f1,f2]
       dsimp only
       rw [hd,c1,c2];rfl
      rw [hap,Bool.or_true]
      exact ac4 ⟨f1,f2,f3⟩ hs hp h2
theorem aBm.snoc {α β:Type} {R:α→β→Prop} {as:List α} {bs:List β} {a:α} {b:β} (h:aBm R as bs) (hab:R a b):aBm R (as ++ [a]) (bs ++ [b]):=by
 induction h with
 | nil=>exact .cons hab .nil
 | cons h1 _ ih=>exact .cons h1 ih
theorem an4 {ops:List Oper}:∀ {l:List Oper} {ls:List (List LE×List LE)} {qs:List QF} {pre:List aeg} {zs:List (aeg×QF)} {bs:List Nat} {ms:List (List Bool)},aBm FtR pre zs→aBm QR ls qs→l.length=ls.length →
  ala (zs.map (·.1)) (l.map (ajq ops)) bs=some ms→aQq (zs.map (·.2)) qs ms=true→a88 pre (aS6 ops l ls) bs=true
 | [],_,_,_,_,_,_,_,.nil,_,_,_=>rfl
 | [],_,_,_,_,_,_,_,.cons _ _,h,_,_=>by simp at h
 | o :: l,_,_,_,_,_,_,_,.nil,h,_,_=>by simp at h
 | o :: l,_,_,pre,zs,bs,ms,hz,.cons (a:=a) (b:=q) (as:=ls) (bs:=qs) h hs,hl,h1,h2=>by
  cases bs with
  | nil=>cases h1
  | cons bf bs =>
   have h1:(match prs bf (ajq ops o) (zs.map (·.1)) 0 with
    | some r=>match ala (zs.map (·.1) ++ [ajq ops o]) (l.map (ajq ops)) bs with
     | some rs=>some (r :: rs)
     | none=>none
    | none=>none)=some ms:=h1
   cases hp:prs bf (ajq ops o) (zs.map (·.1)) 0 with
   | none=>rw [hp] at h1;cases h1
   | some r =>
    rw [hp] at h1
    dsimp only at h1
    cases hp2:ala (zs.map (·.1) ++ [ajq ops o]) (l.map (ajq ops)) bs with
    | none=>rw [hp2] at h1;cases h1
    | some rs =>
     rw [hp2] at h1
     cases h1
     have h2:(match aQp q r (zs.map (·.2)) with
      | true=>aQq (zs.map (·.2) ++ [q]) qs rs
      | false=>false)=true:=h2
     cases hd:aQp q r (zs.map (·.2)) with
     | false=>rw [hd] at h2;cases h2
     | true =>
      rw [hd] at h2
      have hb:FtR (adh ops o a) (ajq ops o,q):=⟨rfl,rfl,h⟩
      show (match a8p bf (adh ops o a) pre 0 with
       | true=>a88 (pre ++ [adh ops o a]) (aS6 ops l ls) bs
       | false=>false)=true
      rw [ac4 hb hz hp hd]
      refine an4 (hz.snoc hb) hs (by simpa using hl) ?_ ?_ (ms:=rs)
      ·rw [List.map_append];exact hp2
      ·rw [List.map_append];exact h2
theorem ajb {B:Nat} {e:LE}:∀ {a b:List LE},e∈a→B≤e.k∨e∈mrg B a b
 | x :: a,b,h=>by
  show B≤e.k∨e∈a9y B x.k x (mrg B a b)
  unfold a9y
  cases hb:Nat.ble B x.k with
  | true =>
   rcases List.mem_cons.mp h with rfl | h
   ·exact .inl (a6e hb)
   ·exact ajb h
  | false =>
   rcases List.mem_cons.mp h with rfl | h
   ·exact .inr List.mem_cons_self
   ·rcases ajb (b:=b) h with h1 | h1
    ·exact .inl h1
    ·exact .inr (List.mem_cons_of_mem _ h1)
theorem afe {B:Nat} {e:LE}:∀ {a b:List LE},e∈b→e∈mrg B a b
 | [],b,h=>h
 | x :: a,b,h=>by
  show e∈a9y B x.k x (mrg B a b)
  unfold a9y
  cases Nat.ble B x.k with
  | true=>exact afe h
  | false=>exact List.mem_cons_of_mem _ (afe h)
theorem CL.mrg {B C:Nat} {l q l' q':List LE} (h:CL B l q) (h':CL C l' q') (hBC:B≤C):CL B (l' ++ l) (V.mrg B q' q):=fun e he=>by
 rcases List.mem_append.mp he with he | he
 ·rcases h' e he with h1 | h1
  ·exact .inl (by omega)
  ·exact ajb h1
 ·rcases h e he with h1 | h1
  ·exact .inl h1
  ·exact .inr (afe h1)
theorem aMm {l l':List LE} {c:Nat} (h:∀ e∈l,e.k < c) (h':∀ e∈l',e.k < c):∀ e∈l' ++ l,e.k < c:=fun e he=>by
 rcases List.mem_append.mp he with he | he
 ·exact h' e he
 ·exact h e he
section
variable {m m':Tr AB} {n n':Nat} {l w l' w':List LE} {fm fm':FM} {nx nx' base base':Nat} {lg wl lg' wl':List LE}
theorem _root_.Go.CE.RS.fresh (hs:RS B ⟨m,n,l,w⟩ ⟨fm,nx,base,lg,wl⟩):RS (2 * n) ⟨m,n,[],[]⟩ ⟨fm,nx,dbl nx,[],[]⟩:=by
 have:n=nx:=hs.nx
 subst this
 exact ⟨rfl,rfl,Nat.le_refl _,(fun e h=>by cases h),(fun e h=>by cases h),hs.m,(fun e h=>by cases h),(fun e h=>by cases h),hs.mb⟩
theorem _root_.Go.CE.RS.back (hs:RS B ⟨m,n,l,w⟩ ⟨fm,nx,base,lg,wl⟩) (h:RS (2 * n) ⟨m',n',l',w'⟩ ⟨fm',nx',base',lg',wl'⟩) (hn:n≤n') {m2:Tr AB} (hm:∀ k,m2.get k=m'.get k):RS B ⟨m2,n',l' ++ l,w' ++ w⟩ ⟨fm',nx',base,mrg base lg' lg,mrg base wl' wl⟩:=by
 have hb:base=B:=hs.base
 subst hb
 have low:base≤2 * n:=hs.low
 have up:∀ j,j < 2 * n→j < 2 * n':=fun j h=>by omega
 refine ⟨h.nx,rfl,by dsimp only;omega,CL.mrg hs.lg h.lg low,CL.mrg hs.wl h.wl low,fun k=>?_,aMm (fun e he=>up _ (hs.bd e he)) h.bd,aMm (fun e he=>up _ (hs.bw e he)) h.bw,fun k x hk=>h.mb k x ?_⟩
 ·dsimp only;rw [hm k];exact h.m k
 ·dsimp only at hk;rw [hm k] at hk;exact hk
end
theorem aPb {P:Program} (hs:RS B s f) {a:Fr} {fr:FF} (hf:RF a fr) {c:Cx} {call yl:Nat→List AV→X AV} (hP:c.P=P) (hc:a6j c.call call) (hy:a6j c.yl yl) (lc:∀ k a,Loc (call k a)) (ly:∀ k a,Loc (yl k a)) (o:Oper) :
  Ok B (fun (x:Fr×List LE×List LE) (y:FF×QF)=>RF x.1 y.1∧QR x.2 y.2) (fun k=>aTe o c fr f fun q fr f=>k (fr,q) f) (aCy (a7d P call yl c.ops a o) s):=fun k r hk=>by
 obtain ⟨m,n,l,w⟩:=s
 obtain ⟨fm,nx,base,lg,wl⟩:=f
 have hn:n=nx:=hs.nx
 subst hn
 change aUy o c fr ⟨fm,n,dbl n,[],[]⟩ (sndK base n lg wl fun q fr f=>k (fr,q) f)=some r at hk
 obtain ⟨fr',f1,a',s1,e,h1,h2,h3⟩:=ayb hs.fresh hf hP hc hy o _ r hk
 obtain ⟨m1,n1,l1,w1⟩:=s1
 obtain ⟨fm1,nx1,b4x,lg1,wl1⟩:=f1
 have hle:=(Loc.a7d lc ly c.ops a o).mono e
 change k (fr',⟨lg1,wl1,dbl n,dbl nx1⟩) ⟨fm1,nx1,base,mrg base lg1 lg,mrg base wl1 wl⟩=some r at h3
 refine ⟨_,_,(a',l1,w1),⟨m1,n1,l1++l,w1++w⟩,?_,⟨h1,?_,?_⟩,hs.back h2 hle (fun _=>rfl),h3⟩
 ·unfold aCy;dsimp only;rw [e]
 ·intro x hx
  have hb:=h2.bd x hx
  have hnx:n1=nx1:=h2.nx
  rcases h2.lg x hx with h4 | h4
  ·exact .inl ⟨h4,by rw [← hnx];exact hb⟩
  ·exact .inr h4
 ·intro x hx
  have hb:=h2.bw x hx
  have hnx:n1=nx1:=h2.nx
  rcases h2.wl x hx with h4 | h4
  ·exact .inl ⟨h4,by rw [← hnx];exact hb⟩
  ·exact .inr h4
theorem aya {P:Program} {c:Cx} {call yl:Nat→List AV→X AV} (hP:c.P=P) (hc:a6j c.call call) (hy:a6j c.yl yl) (lc:∀ k a,Loc (call k a)) (ly:∀ k a,Loc (yl k a)):∀ (l:List Oper) (B:Nat) (s:St) (f:QW) (a:Fr) (fr:FF),RS B s f→RF a fr →
  Ok B (fun (x:Fr×List (List LE×List LE)) (y:FF×List QF)=>RF x.1 y.1∧aBm QR x.2 y.2∧l.length=x.2.length) (fun k=>aFr l c fr f fun qs fr f=>k (fr,qs) f) (adi P call yl c.ops l a s)
 | [],B,s,f,a,fr,hs,hf=>Ok.ret (b:=(fr,([]:List QF))) (a:=(a,([]:List (List LE×List LE)))) ⟨hf,.nil,rfl⟩ hs
 | o :: l,B,s,f,a,fr,hs,hf=>by
  refine Ok.bnd (g:=fun y f k=>aFr l c y.1 f fun qs fr f=>k (fr,y.2 :: qs) f) (aPb hs hf hP hc hy lc ly o) fun y f x s h hs=>?_
  refine Ok.bnd (g:=fun z f k=>k (z.1,y.2 :: z.2) f) (aya hP hc hy lc ly l B s f x.1 y.1 hs h.1) fun z f u s h2 hs=>?_
  exact Ok.ret (b:=(z.1,y.2 :: z.2)) ⟨h2.1,.cons h.2 h2.2.1,by simpa using h2.2.2⟩ hs
theorem aV3 {P:Program} {c:Cx} {call yl:Nat→List AV→X AV} (hP:c.P=P) (hc:a6j c.call call) (hy:a6j c.yl yl) (lc:∀ k a,Loc (call k a)) (ly:∀ k a,Loc (yl k a)) (draw:Bool) {a:Fr} {fr:FF} (hs:RS B s f) (hf:RF a fr) :
  Ok B RF (aZ7 draw c fr f) (amo P call yl c.ops draw a s):=by
 cases draw with
 | false=>exact aKh hP hc hy c.ops B s f a fr hs hf
 | true =>
  show Ok B RF (fun k=>V.opt (aNf c.P c.ops) fun ms=>aFr c.ops c fr f fun qs fr f=>V.iff (aQq [] qs ms) (k fr f)) _
  refine Ok.opt fun ms hms=>?_
  unfold amo
  refine Ok.bnd (g:=fun z f k=>V.iff (aQq [] z.2 ms) (k z.1 f)) (aya hP hc hy lc ly c.ops B s f a fr hs hf) fun z f x s h hs=>?_
  refine Ok.iff fun hd=>?_
  subst hP
  unfold aNf at hms
  cases hst:(c.P.follows .mixedOrders&&acu c.ops 0) with
  | false=>rw [hst] at hms;cases hms
  | true =>
   rw [hst] at hms
   refine Ok.chk ?_ (Ok.ret h.1 hs)
   rw [Bool.true_and]
   exact an4 (pre:=[]) (zs:=[]) .nil h.2.1 h.2.2 hms hd
end V
end Go.CE
namespace Go.CE
namespace V
variable [Sym] [a0n]
variable {B:Nat} {s:St} {f:QW} {P:Program}
def ER (x:Ex×Fr) (y:Ex×FF):Prop:=x.1=y.1∧RF x.2 y.2
def aBg (ih:IH) (ec:Option Nat→Code→Fr→X (Ex×Fr)):Prop:=∀ (B:Nat) (s:St) (f:QW) (rnd:Option Nat) (c:Code) (a:Fr) (fr:FF),RS B s f→RF a fr→Ok B ER (fun k=>ih rnd c fr f fun e fr f=>k (e,fr) f) (ec rnd c a s)
def av7 (sm:SMF) (smA:Nat→Option (List AV→X AV)):Prop:=∀ k,(sm k=none∧smA k=none)∨∃ h hA,sm k=some h∧smA k=some hA∧∀ (B:Nat) (s:St) (f:QW) (a:List AV) (l:List FV),RS B s f→RVs a l→Ok B RV (h l f) (hA a s)
theorem aqx:∀ (l:List Nat) {B:Nat} {s:St} {f:QW},RS B s f→OkS B (awx l f) (shutAll l s)
 | [],_,s,f,hs=>fun _ _ hk=>⟨f,s,rfl,hs,hk⟩
 | i :: l,B,s,f,hs=>fun k r hk=>by
  change aCu i f (fun f=>awx l f k)=some r at hk
  obtain ⟨f1,s1,e1,h1,h2⟩:=aPa hs i _ r hk
  obtain ⟨f2,s2,e2,h3,h4⟩:=aqx l h1 k r h2
  refine ⟨f2,s2,?_,h3,h4⟩
  show CE.bnd (aet i) (fun _=>shutAll l) s=_
  unfold CE.bnd
  rw [e1];exact e2
theorem ay7 {a:Fr} {fr:FF} (hf:RF a fr):∀ (rs:List ResultVar) {B:Nat} {s:St} {f:QW},RS B s f→Ok B RVs (aO2 P fr rs f) (agq P a rs s)
 | [],B,s,f,hs=>Ok.ret RVs.nil hs
 | .tmp t :: rs,B,s,f,hs=>Ok.bnd (x:=aO2 P fr rs f) (g:=fun vs f k=>k (oT t fr :: vs) f) (ay7 hf rs hs) fun vs f as s h hs=>Ok.ret (RVs.cons (a0x hf (.tmp t)) h) hs
 | .cell x t :: rs,B,s,f,hs=>by
  have h1:Ok B RV (au5 P t (oT x fr) f) ((match a1q P t with
   | some ty=>a9k ty (a.at x)
   | none=>fail) s):=ayf hs t (a0x hf (.tmp x))
  have h2:Ok B RVs (fun k=>au5 P t (oT x fr) f fun v f=>aO2 P fr rs f fun vs f=>k (v :: vs) f) (CE.bnd (match a1q P t with
   | some ty=>a9k ty (a.at x)
   | none=>fail) (fun v=>CE.bnd (agq P a rs) fun r=>CE.ret (v :: r)) s) :=
   Ok.bnd (g:=fun v f k=>aO2 P fr rs f fun vs f=>k (v :: vs) f) h1 fun v f y s hv hs=>Ok.bnd (x:=aO2 P fr rs f) (g:=fun vs f k=>k (v :: vs) f) (ay7 hf rs hs) fun vs f as s h hs=>Ok.ret (RVs.cons hv h) hs
  refine Ok.eq h2 ?_
  show _=(match a1q P t with
   | some ty=>CE.bnd (a9k ty (a.at x)) fun v=>CE.bnd (agq P a rs) fun r=>CE.ret (v :: r)
   | none=>fail) s
  cases a1q P t<;>rfl
theorem aPl {v:FV} (h:aW4 v=true) (ho:okV v):okG v:=by
 cases v<;>first | exact ho | cases h
theorem an7:∀ {l:List FV},aR8 l=true→∀ v∈l,aW4 v=true
 | x :: l,h,v,hv=>by
  have h:(Bool.rec (motive:=fun _=>Bool) false (aR8 l) (aW4 x))=true:=h
  cases hx:aW4 x with
  | false=>rw [hx] at h;cases h
  | true =>
   rw [hx] at h
   rcases List.mem_cons.mp hv with rfl | hv
   ·exact hx
   ·exact an7 h v hv
theorem aPc (hs:RS B s f) {as:List AV} {vs:List FV} (h:RVs as vs):Ok B RV (aZc vs f) (CE.ret (oneOf as) s):=by
 obtain ⟨rfl,ho⟩:=h
 have tup:Ok B RV (tupC vs f) (CE.ret (AV.t (vs.map a2t)) s):=by
  refine Ok.iff fun hn=>?_
  have hg:∀ v∈vs,okG v:=fun v hv=>aPl (an7 hn v hv) (ho v hv)
  have:=aw8 vs hg
  refine Ok.ret ⟨?_,this.2⟩ hs
  rw [this.1]
  congr 1
  exact List.map_congr_left fun v hv=>(ana (hg v hv)).1
 match vs,ho,tup with
 | [],_,tup=>exact tup
 | [v],ho,_=>exact Ok.ret ⟨rfl,ho v (by simp)⟩ hs
 | _ :: _ :: _,_,tup=>exact tup
noncomputable def b4i (P:Program) (rs:List ResultVar):Ex×Fr→X AV:=fun (e,fr)=>match e with
 | .exit _=>fail
 | _=>CE.bnd (shutAll fr.mks) fun _=>CE.bnd (agq P fr rs) fun vs=>CE.ret (oneOf vs)
theorem ar0 (hs:RS B s f) {a:Fr} {fr:FF} (hf:RF a fr) (rs:List ResultVar):Ok B RV (az0 P rs fr f) (CE.bnd (shutAll a.mks) (fun _=>CE.bnd (agq P a rs) fun vs=>CE.ret (oneOf vs)) s):=by
 have hm:a.mks=aMf fr:=by rw [hf.mks];obtain ⟨t,nt,mks⟩:=fr;rfl
 rw [hm]
 refine OkS.bnd (g:=fun f k=>aO2 P fr rs f fun vs f=>aZc vs f k) (aqx _ hs) fun f s hs=>?_
 exact Ok.bnd (g:=fun vs f k=>aZc vs f k) (ay7 hf rs hs) fun vs f as s h hs=>aPc hs h
theorem aVc (hs:RS B s f) {x:Ex×Fr} {y:Ex×FF} (h:ER x y) (rs:List ResultVar):Ok B RV (fun k=>aO0 P rs k y.1 y.2 f) (b4i P rs x s):=by
 obtain ⟨e,a⟩:=x
 obtain ⟨e',fr⟩:=y
 obtain ⟨h1,h2⟩:=h
 cases (h1:e=e')
 cases e with
 | normal=>exact ar0 hs h2 rs
 | exit j=>exact Ok.none
 | ret=>exact ar0 hs h2 rs
theorem amc (k:Nat):∀ nt:Nat,a1d (p4 k) (aR5 nt)=.e
 | 0=>adf _
 | nt+1=>by
  show a1d (p4 k) (ab8 (p4 nt) .e (aR5 nt))=_
  rw [a0u,amc k nt]
  split<;>rfl
theorem azp:∀ (l:List FV) (o j:Nat) (t:FV),a1d (p4 j) (mkO l o t)=if o≤j∧j < o+l.length then (l[j - o]?).getD .e else a1d (p4 j) t
 | [],o,j,t=>by show a1d (p4 j) t=_;rw [if_neg (fun h=>by have:=h.2;simp at this;omega)]
 | v :: l,o,j,t=>by
  show a1d (p4 j) (ab8 (p4 o) v (mkO l (o+1) t))=_
  rw [a0u,azp l (o+1) j t]
  by_cases h:j=o
  ·subst h;rw [if_pos rfl,if_pos (by simp)];simp
  ·rw [if_neg h]
   by_cases h1:o+1≤j∧j < o+1+l.length
   ·rw [if_pos h1,if_pos (by simp;omega),show j - o=(j - (o+1))+1 by omega]
    rfl
   ·rw [if_neg h1,if_neg (by simp;omega)]
theorem aNz {a:List AV} {l:List FV} (h:RVs a l) (nt:Nat):RF ⟨aG9 a 0,nt,[]⟩ ⟨aB0 nt l,nt,[]⟩:=by
 obtain ⟨rfl,ho⟩:=h
 refine ⟨rfl,rfl,fun k=>?_⟩
 show (match (aG9 (l.map a2t) 0).get k with | some v=>v | none=>AV.u)=a2t (a1d (p4 k) (aB0 nt l))∧okV (a1d (p4 k) (aB0 nt l))
 unfold aB0
 rw [ar6,azp,amc]
 simp only [Nat.zero_add]
 by_cases hk:k < l.length
 ·rw [if_pos ⟨Nat.zero_le _,by simpa using hk⟩,if_pos ⟨Nat.zero_le _,hk⟩]
  simp only [Nat.sub_zero,List.getElem?_map,List.getElem?_eq_getElem hk,Option.map_some,Option.getD_some]
  exact ⟨trivial,ho _ (List.getElem_mem hk)⟩
 ·rw [if_neg (by rw [List.length_map];omega),if_neg (by omega)]
  exact ⟨rfl,trivial⟩
theorem ayy:∀ l:List FV,aM7 l=l.length
 | []=>rfl
 | x :: l=>by show Nat.succ (aM7 l)=_;rw [ayy l];rfl
theorem aV6 {x:QW→KV→Ans} {y:X AV} (ly:Loc y) (hx:∀ (s:St) (f:QW),RS (2 * s.nx) s f→Ok (2 * s.nx) RV (x f) (y s)) (hs:RS B s f):Ok B RV (fun k=>QW.rec (motive:=fun _=>Ans) (fun m nx base lg wl=>x ⟨m,nx,dbl nx,[],[]⟩ (bkS base lg wl k)) f) (y s):=fun k r hk=>by
 obtain ⟨m,n,l,w⟩:=s
 obtain ⟨fm,nx,base,lg,wl⟩:=f
 have hn:n=nx:=hs.nx
 subst hn
 obtain ⟨v,f1,a,s1,e,h1,h2,h3⟩:=hx ⟨m,n,[],[]⟩ ⟨fm,n,dbl n,[],[]⟩ hs.fresh _ r hk
 obtain ⟨m1,n1,l1,w1⟩:=s1
 obtain ⟨fm1,nx1,b4x,lg1,wl1⟩:=f1
 obtain ⟨hle,lgA,wlA,e1,e2,hsub,k1,again⟩:=ly _ _ _ _ _ _ _ _ _ e
 rw [List.append_nil] at e1 e2
 subst e1;subst e2
 obtain ⟨m2,e3,ag,k2⟩:=again m l w fun e _=>⟨sameShape.refl _,fun _ _=>rfl⟩
 have hm:∀ i,m2.get i=m1.get i:=fun i=>by
  have:=ad1 k1 k2 hsub ag (l2:=[whole i]) (fun e _=>⟨sameShape.refl _,fun _ _=>rfl⟩)
  exact (agf (this (whole i) (by simp))).symm
 exact ⟨v,_,a,⟨m2,n1,l1++l,w1++w⟩,e3,h1,hs.back h2 hle hm,h3⟩
theorem aon {sm:SMF} {smA:Nat→Option (List AV→X AV)} {ih:IH} {ec:Option Nat→Code→Fr→X (Ex×Fr)} (hsm:av7 sm smA) (hec:aBg ih ec) (lec:∀ r c a,Loc (ec r c a)):a6j (adv P sm ih) (a7z P smA (ec none)):=fun B s f k a l hs h=>by
 unfold adv a7z
 rcases hsm k with ⟨e1,e2⟩ | ⟨q,qA,e1,e2,hq⟩
 ·rw [e1,e2]
  show Ok B RV (fun kk=>V.opt (FT P k) fun z=>aTm P ih z l f kk) ((match FT P k with
   | some (c,nt,rs)=>CE.bnd (CE.chk (Nat.ble a.length nt)) fun _=>CE.bnd (ec none c ⟨aG9 a 0,nt,[]⟩) (b4i P rs)
   | none=>fail) s)
  refine Ok.opt fun z hz=>?_
  obtain ⟨c,nt,rs⟩:=z
  rw [hz]
  dsimp only
  have hl:aM7 l=a.length:=by rw [ayy,h.1,List.length_map]
  show Ok B RV (fun kk=>V.iff (Nat.ble (aM7 l) nt) (QW.rec (motive:=fun _=>Ans) (fun m nx base lg wl=>ih none c ⟨aB0 nt l,nt,[]⟩ ⟨m,nx,dbl nx,[],[]⟩ (aO0 P rs (bkS base lg wl kk))) f)) _
  rw [hl]
  refine Ok.iff fun hc=>Ok.chk hc ?_
  refine aV6 (x:=fun f k=>ih none c ⟨aB0 nt l,nt,[]⟩ f (aO0 P rs k)) (y:=CE.bnd (ec none c ⟨aG9 a 0,nt,[]⟩) (b4i P rs)) (Loc.bnd (lec _ _ _) fun x=>?_) (fun s f hs=>?_) hs
  ·obtain ⟨e,fr⟩:=x
   cases e with
   | exit j=>exact Loc.fail
   | normal=>exact Loc.bnd (Loc.shutAll _) fun _=>Loc.bnd (Loc.agq _ _ _) fun _=>Loc.ret _
   | ret=>exact Loc.bnd (Loc.shutAll _) fun _=>Loc.bnd (Loc.agq _ _ _) fun _=>Loc.ret _
  ·exact Ok.bnd (g:=fun y f k=>aO0 P rs k y.1 y.2 f) (hec _ s f none c _ _ hs (aNz h nt)) fun y f x s hx hs=>aVc hs hx rs
 ·rw [e1,e2]
  exact hq B s f a l hs h
theorem ayg:∀ (ps:List Nat) {as:List AV} {vs:List FV} {B:Nat} {s:St} {f:QW} {a:Fr} {fr:FF},RS B s f→RF a fr→RVs as vs→Ok B RF (au9 ps vs fr f) (layAll ps as a s)
 | [],as,vs,B,s,f,a,fr,hs,hf,h=>by
  obtain ⟨rfl,ho⟩:=h
  cases vs with
  | nil=>exact Ok.ret hf hs
  | cons v vs=>exact Ok.none
 | p :: ps,as,vs,B,s,f,a,fr,hs,hf,h=>by
  obtain ⟨rfl,ho⟩:=h
  cases vs with
  | nil=>exact Ok.none
  | cons v vs =>
   exact Ok.bnd (x:=avb (some p) fr v f) (g:=fun fr f k=>au9 ps vs fr f k) (ayh hs hf (some p) ⟨rfl,ho v (by simp)⟩) fun fr f a s hf hs=>ayg ps hs hf ⟨rfl,fun w hw=>ho w (by simp [hw])⟩
theorem aFv {ih:IH} {ec:Option Nat→Code→Fr→X (Ex×Fr)} (hec:aBg ih ec):a6j (aTr ih) (a9b fun l=>ec (some l)):=fun B s f l as vs hs h=>by
 unfold aTr a9b
 refine Ok.bnd (x:=fun k=>rlC l f fun fr ps x y st s=>k (fr,ps,x,y,st) s) (g:=fun z f k=>au9 z.2.1 vs z.1 f fun fr f=>ih (some l) z.2.2.1 fr f fun e fr f=>match e with
  | .normal=>rlC l f fun _ _ _ _ st f=>match st with
   | .ready=>wlC l .busy f fun f=>ih (some l) z.2.2.2.1 fr f (aNy l k)
   | _=>none
  | _=>none) (aqz hs l) fun z f x s hx hs=>?_
 obtain ⟨a,ps,asg,body,st⟩:=x
 obtain ⟨fr,q⟩:=z
 obtain ⟨h1,h2⟩:=hx
 dsimp only at h2
 subst h2
 dsimp only
 refine Ok.bnd (x:=au9 ps vs fr f) (g:=fun fr f k=>ih (some l) asg fr f fun e fr f=>match e with
  | .normal=>rlC l f fun _ _ _ _ st f=>match st with
   | .ready=>wlC l .busy f fun f=>ih (some l) body fr f (aNy l k)
   | _=>none
  | _=>none) (ayg ps hs h1 h) fun fr f a s hf hs=>?_
 refine Ok.bnd (g:=fun y f k=>match y.1 with
  | .normal=>rlC l f fun _ _ _ _ st f=>match st with
   | .ready=>wlC l .busy f fun f=>ih (some l) body y.2 f (aNy l k)
   | _=>none
  | _=>none) (hec B s f (some l) asg a fr hs hf) fun y f x s hx hs=>?_
 obtain ⟨e,a⟩:=x
 obtain ⟨e',fr⟩:=y
 obtain ⟨h1,hf⟩:=hx
 cases (h1:e=e')
 cases e with
 | normal =>
  dsimp only
  refine Ok.bnd (x:=fun k=>rlC l f fun fr ps x y st s=>k (fr,ps,x,y,st) s) (g:=fun z f k=>match z.2.2.2.2 with
   | .ready=>wlC l .busy f fun f=>ih (some l) body fr f (aNy l k)
   | _=>none) (aqz hs l) fun z f x s hx hs=>?_
  obtain ⟨_,_,_,_,st⟩:=x
  obtain ⟨_,q⟩:=z
  obtain ⟨_,h2⟩:=hx
  dsimp only at h2
  subst h2
  dsimp only
  cases st with
  | ready =>
   dsimp only
   refine OkS.bnd (g:=fun f k=>ih (some l) body fr f (aNy l k)) (ahl hs l .busy) fun f s hs=>?_
   refine Ok.bnd (g:=fun y f k=>aNy l k y.1 y.2 f) (hec B s f (some l) body a fr hs hf) fun y f x s hx hs=>?_
   obtain ⟨e,a⟩:=x
   obtain ⟨e',fr⟩:=y
   obtain ⟨h1,hf⟩:=hx
   cases (h1:e=e')
   cases e with
   | normal=>exact OkS.bnd (g:=fun f k=>k (FV.b true) f) (ahl hs l .ready) fun f s hs=>Ok.ret (aTi _) hs
   | exit j=>exact OkS.bnd (g:=fun f k=>k (FV.b false) f) (ahl hs l (.done (.exit j))) fun f s hs=>Ok.ret (aTi _) hs
   | ret=>exact OkS.bnd (g:=fun f k=>k (FV.b false) f) (ahl hs l (.done .ret)) fun f s hs=>Ok.ret (aTi _) hs
  | _=>exact Ok.none
 | _=>exact Ok.none
theorem rf_0 {a:Fr} {fr:FF} (h:RF a fr):RF ⟨a.t,a.nt,[]⟩ (aS5 fr):=by
 obtain ⟨t,nt,m⟩:=fr
 exact ⟨h.nt,rfl,h.slot⟩
theorem rf_d {a:Fr} {fr:FF} (h:RF a fr) (d:Nat):RF ⟨a.t,a.nt,d :: a.mks⟩ (aX0 d fr):=by
 obtain ⟨t,nt,m⟩:=fr
 exact ⟨h.nt,congrArg (d :: ·) h.mks,h.slot⟩
theorem aol (hs:RS B s f) (g:Bool) {x:AB} {y:FB} (h:RB (some x) y) {α β:Type} {R:α→β→Prop} {q:Nat→QW→(β→QW→Ans)→Ans} {z:Nat→X α} (hq:∀ i f s,RS B s f→Ok B R (q i f) (z i s)):Ok B R (fun k=>a9h g y f fun _ i f=>q i f k) (CE.bnd (a4o g x) z s):=fun k r hk=>by
 obtain ⟨i,f',s',e,h1,h2⟩:=ayd hs g h _ r hk
 obtain ⟨b,f2,a,s2,e2,h3,h4,h5⟩:=hq i f' s' h1 k r h2
 refine ⟨b,f2,a,s2,?_,h3,h4,h5⟩
 unfold CE.bnd
 rw [e];exact e2
theorem aVb (hs:RS B s f) {a:Fr} {fr:FF} (hf:RF a fr) (rnd:Option Nat) (ps:List Nat) (asg body:Code):Ok B (fun (x:Nat×Fr) (y:Nat×FF)=>x.1=y.1∧RF x.2 y.2) (fun k=>aZt rnd fr ps asg body f fun i fr f=>k (i,fr) f) (a8v rnd a ps asg body s):=by
 cases rnd with
 | some l =>
  refine Ok.bnd (x:=fun k=>rlC l f fun fr ps x y st s=>k (fr,ps,x,y,st) s) (g:=fun z f k=>a9h false (.loop (aS5 fr) ps asg body .ready) f fun _ i f=>k (i,fr) f) (aqz hs l) fun z f x s _ hs=>?_
  exact aol hs false (.loop _ _ ps asg body .ready (rf_0 hf)) (q:=fun i f k=>k (i,fr) f) fun i f s hs=>Ok.ret ⟨rfl,hf⟩ hs
 | none =>
  show Ok B _ (fun k=>a9h false .dfr f fun _ d f=>a9h false (.loop (aS5 fr) ps asg body .ready) f fun _ i f=>k (i,aX0 d fr) f) (CE.bnd (a4o false .dfr) (fun d=>CE.bnd (a4o false (.loop ⟨a.t,a.nt,[]⟩ ps asg body .ready)) fun k=>CE.ret (k,Fr.mk a.t a.nt (d :: a.mks))) s)
  refine aol hs false .dfr (q:=fun d f k=>a9h false (.loop (aS5 fr) ps asg body .ready) f fun _ i f=>k (i,aX0 d fr) f) fun d f s hs=>?_
  exact aol hs false (.loop _ _ ps asg body .ready (rf_0 hf)) (q:=fun i f k=>k (i,aX0 d fr) f) fun i f s hs=>Ok.ret ⟨rfl,rf_d hf d⟩ hs
theorem aV9 (hs:RS B s f) (i:Nat):Ok B (fun (x y:Ex)=>x=y) (aS2 i f) (a8s i s):=by
 refine Ok.bnd (x:=fun k=>rlC i f fun fr ps x y st s=>k (fr,ps,x,y,st) s) (g:=fun z f k=>match z.2.2.2.2 with
  | .ready=>wlC i .exhausted f fun f=>k .normal f
  | .done e=>wlC i .exhausted f fun f=>k e f
  | _=>none) (aqz hs i) fun z f x s hx hs=>?_
 obtain ⟨_,_,_,_,st⟩:=x
 obtain ⟨_,q⟩:=z
 obtain ⟨_,h2⟩:=hx
 dsimp only at h2
 subst h2
 dsimp only
 cases st with
 | ready=>exact OkS.bnd (g:=fun f k=>k Ex.normal f) (ahl hs i .exhausted) fun f s hs=>Ok.ret rfl hs
 | done e=>exact OkS.bnd (g:=fun f k=>k e f) (ahl hs i .exhausted) fun f s hs=>Ok.ret rfl hs
 | _=>exact Ok.none
theorem aom {sm:SMF} {smA:Nat→Option (List AV→X AV)} (hsm:av7 sm smA) (lsm:∀ k h,smA k=some h→∀ a,Loc (h a)):∀ q:Nat,aBg (a5j P sm q) (a1x P smA q)
 | 0=>fun _ _ _ _ _ _ _ _ _=>Ok.none
 | q+1=>fun B s f rnd c a fr hs hf=>by
  have ih:=aom hsm lsm q
  have lec:=Loc.a1x (P:=P) lsm q
  have hcall:=aon (P:=P) hsm ih lec
  have b3d:∀ k x,Loc (a7z P smA (a1x P smA q none) k x):=fun k x=>Loc.a7z lsm (lec none) k x
  cases c with
  | skip=>exact Ok.ret (b:=(Ex.normal,fr)) ⟨rfl,hf⟩ hs
  | label l=>exact Ok.ret (b:=(Ex.normal,fr)) ⟨rfl,hf⟩ hs
  | ret=>exact Ok.ret (b:=(Ex.ret,fr)) ⟨rfl,hf⟩ hs
  | exit j=>exact Ok.ret (b:=(Ex.exit j,fr)) ⟨rfl,hf⟩ hs
  | seq x y =>
   refine Ok.bnd (x:=fun k=>a5j P sm q rnd x fr f fun e fr f=>k (e,fr) f) (g:=fun z f k=>aRr y (a5j P sm q) rnd (fun e fr f=>k (e,fr) f) z.1 z.2 f) (ih B s f rnd x a fr hs hf) fun z f u s hu hs=>?_
   obtain ⟨e,a⟩:=u
   obtain ⟨e',fr⟩:=z
   obtain ⟨h1,hf⟩:=hu
   cases (h1:e=e')
   cases e with
   | normal=>exact ih B s f rnd y a fr hs hf
   | exit j=>exact Ok.ret (b:=(Ex.exit j,fr)) ⟨rfl,hf⟩ hs
   | ret=>exact Ok.ret (b:=(Ex.ret,fr)) ⟨rfl,hf⟩ hs
  | cond x y z =>
   obtain ⟨e,ov⟩:=a0x hf x
   show Ok B ER (fun k=>aQ1 x y z P sm (a5j P sm q) rnd fr f fun e fr f=>k (e,fr) f) ((match a19 a x with
    | .b true=>a1x P smA q rnd y a
    | .b false=>a1x P smA q rnd z a
    | _=>fail) s)
   rw [e]
   unfold aQ1
   generalize oV x fr=v at ov
   cases v with
   | b v =>
    cases v with
    | true=>exact ih B s f rnd y a fr hs hf
    | false=>exact ih B s f rnd z a fr hs hf
   | _=>exact Ok.none
  | block j x =>
   refine Ok.bnd (x:=fun k=>a5j P sm q rnd x fr f fun e fr f=>k (e,fr) f) (g:=fun z f k=>b4u j (fun e fr f=>k (e,fr) f) z.1 z.2 f) (ih B s f rnd x a fr hs hf) fun z f u s hu hs=>?_
   obtain ⟨e,a⟩:=u
   obtain ⟨e',fr⟩:=z
   obtain ⟨h1,hf⟩:=hu
   cases (h1:e=e')
   cases e with
   | normal=>exact Ok.ret (b:=(Ex.normal,fr)) ⟨rfl,hf⟩ hs
   | exit i =>
    show Ok B ER (fun k=>Bool.rec (motive:=fun _=>Ans) (k (.exit i,fr) f) (k (.normal,fr) f) (Nat.beq i j)) ((match Nat.beq i j with
     | true=>CE.ret (Ex.normal,a)
     | false=>CE.ret (Ex.exit i,a)) s)
    cases Nat.beq i j with
    | true=>exact Ok.ret (b:=(Ex.normal,fr)) ⟨rfl,hf⟩ hs
    | false=>exact Ok.ret (b:=(Ex.exit i,fr)) ⟨rfl,hf⟩ hs
   | ret=>exact Ok.ret (b:=(Ex.ret,fr)) ⟨rfl,hf⟩ hs
  | loop x =>
   refine Ok.bnd (x:=fun k=>a5j P sm q rnd x fr f fun e fr f=>k (e,fr) f) (g:=fun z f k=>aRr (.loop x) (a5j P sm q) rnd (fun e fr f=>k (e,fr) f) z.1 z.2 f) (ih B s f rnd x a fr hs hf) fun z f u s hu hs=>?_
   obtain ⟨e,a⟩:=u
   obtain ⟨e',fr⟩:=z
   obtain ⟨h1,hf⟩:=hu
   cases (h1:e=e')
   cases e with
   | normal=>exact ih B s f rnd (.loop x) a fr hs hf
   | exit j=>exact Ok.ret (b:=(Ex.exit j,fr)) ⟨rfl,hf⟩ hs
   | ret=>exact Ok.ret (b:=(Ex.ret,fr)) ⟨rfl,hf⟩ hs
  | region id ops draw =>
   have h:=aV3 (c:=⟨P,adv P sm (a5j P sm q),aTr (a5j P sm q),ops.toList⟩) rfl hcall (aFv ih) b3d (fun k x=>Loc.a9b (fun l=>lec (some l)) k x) draw hs hf
   exact Ok.bnd (g:=fun fr f k=>k (Ex.normal,fr) f) h fun fr f a s hf hs=>Ok.ret (b:=(Ex.normal,fr)) ⟨rfl,hf⟩ hs
  | rangeFunc g ps asg body =>
   obtain ⟨e,ov⟩:=a0x hf g
   show Ok B ER (fun k=>aza g ps asg body P sm (a5j P sm q) rnd fr f fun e fr f=>k (e,fr) f) ((match a19 a g with
    | .f fn x cp=>CE.bnd (a8v rnd a ps.toList asg body) fun (k,fr) =>
     CE.bnd (a7z P smA (a1x P smA q none) fn (x ++ [AV.y k]++cp)) fun _=>CE.bnd (a8s k) fun e=>CE.ret (e,fr)
    | _=>fail) s)
   rw [e]
   unfold aza
   generalize oV g fr=v at ov
   cases v with
   | o v =>
    cases v with
    | f fn x cp =>
     show Ok B ER (fun k=>aZt rnd fr ps.toList asg body f fun i fr f=>adv P sm (a5j P sm q) fn (aor x (.o (.y i) :: aor cp [])) f fun _ f=>aS2 i f fun e f=>k (e,fr) f) (CE.bnd (a8v rnd a ps.toList asg body) (fun (z:Nat×Fr) =>
      CE.bnd (a7z P smA (a1x P smA q none) fn (x ++ [AV.y z.1]++cp)) fun _=>CE.bnd (a8s z.1) fun e=>CE.ret (e,z.2)) s)
     refine Ok.bnd (x:=fun k=>aZt rnd fr ps.toList asg body f fun i fr f=>k (i,fr) f) (g:=fun z f k=>adv P sm (a5j P sm q) fn (aor x (.o (.y z.1) :: aor cp [])) f fun _ f=>aS2 z.1 f fun e f=>k (e,z.2) f) (aVb hs hf rnd ps.toList asg body) fun z f u s hu hs=>?_
     obtain ⟨i,a⟩:=u
     obtain ⟨i',fr⟩:=z
     obtain ⟨h1,hf⟩:=hu
     cases (h1:i=i')
     have hargs:RVs (x ++ [AV.y i]++cp) (aor x (.o (.y i) :: aor cp [])):=by
      rw [List.append_assoc]
      refine abh (RVs.cons (v:=.o (.y i)) ⟨rfl,rfl⟩ ?_) x
      have:=abh RVs.nil cp
      rwa [List.append_nil] at this
     refine Ok.bnd (x:=adv P sm (a5j P sm q) fn (aor x (.o (.y i) :: aor cp [])) f) (g:=fun _ f k=>aS2 i f fun e f=>k (e,fr) f) (hcall B s f fn _ _ hs hargs) fun _ f _ s _ hs=>?_
     exact Ok.bnd (x:=aS2 i f) (g:=fun e f k=>k (e,fr) f) (aV9 hs i) fun e f e' s he hs=>by
      subst he
      exact Ok.ret (b:=(e',fr)) ⟨rfl,hf⟩ hs
    | _=>exact Ok.none
   | _=>exact Ok.none
  | _=>exact Ok.none
theorem ayi {sm:SMF} {smA:Nat→Option (List AV→X AV)} (hsm:av7 sm smA) (lsm:∀ k h,smA k=some h→∀ a,Loc (h a)) (q k:Nat) {a:List AV} {l:List FV} {v:FV} {f':QW} (hs:RS B s f) (h:RVs a l) (he:evF P sm q k l f=some (v,f')) :
  ∃ x s',a5c P smA q k a s=some (x,s')∧RV x v∧RS B s' f':=by
 obtain ⟨b,f1,x,s1,e,h1,h2,h3⟩:=aon (P:=P) hsm (aom hsm lsm q) (Loc.a1x lsm q) B s f k a l hs h endK _ he
 cases h3
 exact ⟨x,s1,e,h1,h2⟩
end V
end Go.CE
namespace Go.CE
namespace V
variable [Sym]
section
variable {X:Type}
abbrev SK (X:Type):=Ex→X→QW→Ans
abbrev SC (X:Type):=X→QW→SK X→Ans
abbrev SF (X:Type):=Nat→SC X
noncomputable def noS:SC X:=fun _ _ _=>none
noncomputable def apb (f:Nat→SC X):SF X:=fun n=>Nat.rec (motive:=fun _=>SC X) noS (fun m _=>f m) n
noncomputable def b1q:SC X:=fun x s κ=>κ .normal x s
noncomputable def ret1:SC X:=fun x s κ=>κ .ret x s
noncomputable def b4f (j:Nat):SC X:=fun x s κ=>κ (.exit j) x s
noncomputable def abf:SF X:=apb fun _=>b1q
noncomputable def akb:SF X:=apb fun _=>ret1
noncomputable def amm (j:Nat):SF X:=apb fun _=>b4f j
noncomputable def aZ4 (b:SC X) (κ:SK X):SK X:=fun e x s=>Ex.rec (motive:=fun _=>Ans) (b x s κ) (fun j=>κ (.exit j) x s) (κ .ret x s) e
noncomputable def a2p (A B:SF X):SF X:=apb fun m x s κ=>A m x s (aZ4 (B m) κ)
noncomputable def ac0 (get:X→FV) (A B:SF X):SF X:=apb fun m x s κ=>aac (get x) (A m x s κ) (B m x s κ)
noncomputable def blkE (i:Nat) (κ:SK X):SK X:=fun e x s=>Ex.rec (motive:=fun _=>Ans) (κ .normal x s) (fun j=>Bool.rec (motive:=fun _=>Ans) (κ (.exit j) x s) (κ .normal x s) (Nat.beq j i)) (κ .ret x s) e
noncomputable def adw (i:Nat) (A:SF X):SF X:=apb fun m x s κ=>A m x s (blkE i κ)
noncomputable def ajf (A:SF X):SF X:=fun n=>Nat.rec (motive:=fun _=>SC X) noS (fun m ih x s κ=>A m x s (aZ4 ih κ)) n
abbrev RG (X:Type):=CF→CF→X→QW→(X→QW→Ans)→Ans
noncomputable def a3l (P:Program) (sm:SMF) (R:RG X):SF X:=apb fun m x s κ=>R (adv P sm (a5j P sm m)) (aTr (a5j P sm m)) x s (κ .normal)
def Sh (P:Program) (sm:SMF) (T:X→FF) (c:Code) (S:SF X):Prop:=∀ n x s k,a5j P sm n none c (T x) s k=S n x s fun e x s=>k e (T x) s
variable {P:Program} {sm:SMF} {T:X→FF}
theorem a5p:Sh P sm T .skip abf:=fun n x s k=>by cases n<;>rfl
theorem a5x:Sh P sm T .ret akb:=fun n x s k=>by cases n<;>rfl
theorem aao (j:Nat):Sh P sm T (.exit j) (amm j):=fun n x s k=>by cases n<;>rfl
theorem a0a {a b:Code} {A B:SF X} (ha:Sh P sm T a A) (hb:Sh P sm T b B):Sh P sm T (.seq a b) (a2p A B):=fun n x s k=>by
 cases n with
 | zero=>rfl
 | succ m =>
  show a5j P sm m none a (T x) s (aRr b (a5j P sm m) none k)=A m x s (aZ4 (B m) fun e x s=>k e (T x) s)
  rw [ha m x s]
  refine congrArg (A m x s) (funext fun e=>funext fun x=>funext fun s=>?_)
  cases e with
  | normal=>exact hb m x s k
  | exit j=>rfl
  | ret=>rfl
theorem a5q {c:Operand} {get:X→FV} (hg:∀ x,oV c (T x)=get x) {a b:Code} {A B:SF X} (ha:Sh P sm T a A) (hb:Sh P sm T b B):Sh P sm T (.cond c a b) (ac0 get A B):=fun n x s k=>by
 cases n with
 | zero=>rfl
 | succ m =>
  show aac (oV c (T x)) (a5j P sm m none a (T x) s k) (a5j P sm m none b (T x) s k)=aac (get x) (A m x s fun e x s=>k e (T x) s) (B m x s fun e x s=>k e (T x) s)
  rw [hg,ha m x s k,hb m x s k]
theorem a7f (i:Nat) {a:Code} {A:SF X} (ha:Sh P sm T a A):Sh P sm T (.block i a) (adw i A):=fun n x s k=>by
 cases n with
 | zero=>rfl
 | succ m =>
  show a5j P sm m none a (T x) s (b4u i k)=A m x s (blkE i fun e x s=>k e (T x) s)
  rw [ha m x s]
  exact congrArg (A m x s) (funext fun e=>funext fun x=>funext fun s=>by cases e<;>rfl)
theorem aan {a:Code} {A:SF X} (ha:Sh P sm T a A):Sh P sm T (.loop a) (ajf A):=fun n=>by
 induction n with
 | zero=>intro x s k;rfl
 | succ m ih =>
  intro x s k
  show a5j P sm m none a (T x) s (aRr (.loop a) (a5j P sm m) none k)=A m x s (aZ4 (ajf A m) fun e x s=>k e (T x) s)
  rw [ha m x s]
  refine congrArg (A m x s) (funext fun e=>funext fun x=>funext fun s=>?_)
  cases e with
  | normal=>exact ih x s k
  | exit j=>rfl
  | ret=>rfl
def RgOk (P:Program) (d:Bool) (o:Array Oper) (T:X→FF) (R:RG X):Prop:=∀ call yl x s (k:KF),aZ7 d ⟨P,call,yl,o.toList⟩ (T x) s k=R call yl x s fun x s=>k (T x) s
abbrev MO (X:Type):=QW→(X→QW→Ans)→Ans
theorem a0g {id:Nat} {ops:Array Oper} {d:Bool} {R:RG X} (h:∀ call yl x s (k:KF),aZ7 d ⟨P,call,yl,ops.toList⟩ (T x) s k=R call yl x s fun x s=>k (T x) s):Sh P sm T (.region id ops d) (a3l P sm R):=fun n x s k=>by
 cases n with
 | zero=>rfl
 | succ m=>exact h _ _ x s (k .normal)
noncomputable def aZ5 (P:Program) (T:X→FF) (S:SF X) (rs:List ResultVar) (q:Nat) (x:X) (s:QW) (k:KV):Ans :=
 QW.rec (motive:=fun _=>Ans) (fun m nx base lg wl=>S q x ⟨m,nx,dbl nx,[],[]⟩ fun e x s=>aO0 P rs (bkS base lg wl k) e (T x) s) s
theorem aNw {c:Code} {S:SF X} {nt:Nat} {rs:List ResultVar} (h:Sh P sm T c S) (q:Nat) {args:List FV} {x:X} (hx:T x=⟨aB0 nt args,nt,[]⟩) (hl:Nat.ble (aM7 args) nt=true) (s:QW) (k:KV) :
  aTm P (a5j P sm q) (c,nt,rs) args s k=aZ5 P T S rs q x s k:=by
 unfold aTm aZ5
 dsimp only
 rw [hl]
 show QW.rec (motive:=fun _=>Ans) (fun m nx base lg wl=>a5j P sm q none c ⟨aB0 nt args,nt,[]⟩ ⟨m,nx,dbl nx,[],[]⟩ (aO0 P rs (bkS base lg wl k))) s=_
 rw [← hx]
 simp only [h q x]
end
end V
end Go.CE
namespace Go.CE
namespace V
variable [Sym]
def b1h (j:Nat):Code→Code
 | .seq a b=>match j with
  | 0=>a
  | _=>b
 | .cond _ a b=>match j with
  | 0=>a
  | _=>b
 | .block _ a=>a
 | .loop a=>a
 | c=>c
def pth:List Nat→Code→Code
 | [],c=>c
 | j :: l,c=>pth l (b1h j c)
def a3o:Code→Array Oper
 | .region _ ops _=>ops
 | _=>#[]
def a8w (P:Program) (k:Nat):Code:=match P.funcs[k]? with
 | some f=>match f.body with
  | some c=>c
  | none=>.skip
 | none=>.skip
noncomputable def qz (s:QW):QF:=QW.rec (motive:=fun _=>QF) (fun _ nx _ _ _=>⟨[],[],dbl nx,dbl nx⟩) s
noncomputable def b1u (base nx0:Nat) (lg wl:List LE) (k:QF→FV→QW→Ans) (v:FV) (s:QW):Ans:=QW.rec (motive:=fun _=>Ans) (fun m nx _ lg' wl'=>k ⟨lg',wl',dbl nx0,dbl nx⟩ v ⟨m,nx,base,mrg base lg' lg,mrg base wl' wl⟩) s
noncomputable def a8e (op:QW→KV→Ans) (s:QW) (k:QF→FV→QW→Ans):Ans:=QW.rec (motive:=fun _=>Ans) (fun m nx base lg wl=>op ⟨m,nx,dbl nx,[],[]⟩ (b1u base nx lg wl k)) s
section
noncomputable def aqc {Y:Type} (P:Program) (T:Y→FF) (S:SF Y) (rs:List ResultVar) (q:Nat) (ar:List FV→Option Y):List FV→QW→KV→Ans:=fun l s k=>opt (ar l) fun x=>aZ5 P T S rs q x s k
end
section
variable [a0n] {Y:Type} {P:Program} {sm:SMF} {smA:Nat→Option (List AV→X AV)}
def b54 (P:Program) (_:SMF) (smA:Nat→Option (List AV→X AV)) (q k:Nat) (h:List FV→QW→KV→Ans):Prop:=∀ (B:Nat) (s:St) (f:QW) (a:List AV) (l:List FV),RS B s f→RVs a l→Ok B RV (h l f) (a5c P smA q k a s)
theorem aGi (hsm:av7 sm smA) (lsm:∀ k h,smA k=some h→∀ a,Loc (h a)) {k:Nat} (hk:sm k=none) (hA:smA k=none) {c:Code} {nt:Nat} {rs:List ResultVar} (hft:FT P k=some (c,nt,rs)) {T:Y→FF} {S:SF Y} (hS:Sh P sm T c S)
  {ar:List FV→Option Y} (har:∀ l x,ar l=some x→T x=⟨aB0 nt l,nt,[]⟩∧Nat.ble (aM7 l) nt=true) (q:Nat):b54 P sm smA q k (aqc P T S rs q ar):=fun B s f a l hs h=>by
 refine Ok.opt fun x hx=>?_
 obtain ⟨h1,h2⟩:=har l x hx
 have key:∀ kk,aZ5 P T S rs q x f kk=adv P sm (a5j P sm q) k l f kk:=fun kk=>by
  unfold adv
  rw [hk]
  show _=V.opt (FT P k) (fun z=>aTm P (a5j P sm q) z l f kk)
  rw [hft]
  exact (aNw hS q h1 h2 f kk).symm
 intro kk r hr
 rw [key kk] at hr
 exact aon hsm (aom hsm lsm q) (Loc.a1x lsm q) B s f k a l hs h kk r hr
end
end V
end Go.CE
namespace Go.CE
namespace V
variable [Sym]
abbrev LQ:=List FV→QW→KV→Ans
abbrev LA:=List AV→X AV
inductive LT where
 | e
 | n (k:Nat) (h:LQ) (a:LA) (l r:LT)
noncomputable def LT.fq (t:LT) (k:Nat):Option LQ:=LT.rec (motive:=fun _=>Option LQ) none (fun j h _ _ _ il ir=>Bool.rec (motive:=fun _=>Option LQ) (Bool.rec (motive:=fun _=>Option LQ) ir il (Nat.ble k j)) (some h) (Nat.beq k j)) t
noncomputable def LT.fa (t:LT) (k:Nat):Option LA:=LT.rec (motive:=fun _=>Option LA) none (fun j _ a _ _ il ir=>Bool.rec (motive:=fun _=>Option LA) (Bool.rec (motive:=fun _=>Option LA) ir il (Nat.ble k j)) (some a) (Nat.beq k j)) t
structure Good [a0n] (P:Program) (k:Nat) (h:LQ) (a:LA):Prop where
 loc:∀ x,Loc (a x)
 sound:∀ (B:Nat) (σ:Sg) (m:Tr AB) (n:Nat) (l w:List LE) (W:World) (args:List AV) (v:AV) (m':Tr AB) (n':Nat) (l' w':List LE) (vals:Array Value),
  GS σ→SR P B σ m W→LR σ args vals→a args ⟨m,n,l,w⟩=some (v,⟨m',n',l',w'⟩)→a3q σ n n'→(callFunc k vals).run P W=.ok (.enter k vals) W∧Calls P k vals W (Done P B σ n n' m' v W)
 ok:∀ (B:Nat) (s:St) (f:QW) (x:List AV) (l:List FV),RS B s f→RVs x l→Ok B RV (h l f) (a x s)
def LT.all (p:Nat→LQ→LA→Prop):LT→Prop
 | .e=>True
 | .n k h a l r=>p k h a∧l.all p∧r.all p
section
variable [a0n] {P:Program}
theorem LT.find (p:Nat→LQ→LA→Prop) (k:Nat):∀ t:LT,t.all p→(t.fq k=none∧t.fa k=none)∨∃ h a,t.fq k=some h∧t.fa k=some a∧p k h a
 | .e,_=>.inl ⟨rfl,rfl⟩
 | .n j h a l r,ht=>by
  show ((Bool.rec (motive:=fun _=>Option LQ) (Bool.rec (motive:=fun _=>Option LQ) (r.fq k) (l.fq k) (Nat.ble k j)) (some h) (Nat.beq k j))=none∧(Bool.rec (motive:=fun _=>Option LA) (Bool.rec (motive:=fun _=>Option LA) (r.fa k) (l.fa k) (Nat.ble k j)) (some a) (Nat.beq k j))=none)∨∃ h' a',(Bool.rec (motive:=fun _=>Option LQ) (Bool.rec (motive:=fun _=>Option LQ) (r.fq k) (l.fq k) (Nat.ble k j)) (some h) (Nat.beq k j))=some h'∧(Bool.rec (motive:=fun _=>Option LA) (Bool.rec (motive:=fun _=>Option LA) (r.fa k) (l.fa k) (Nat.ble k j)) (some a) (Nat.beq k j))=some a'∧p k h' a'
  cases hb:Nat.beq k j with
  | true=>have:=a92 hb;subst this;exact .inr ⟨h,a,rfl,rfl,ht.1⟩
  | false =>
   cases Nat.ble k j with
   | true=>exact LT.find p k l ht.2.1
   | false=>exact LT.find p k r ht.2.2
theorem LT.aNd {t:LT} (h:t.all (Good P)):av7 t.fq t.fa:=fun k=>by
 rcases LT.find _ k t h with h1 | ⟨q,a,h1,h2,g⟩
 ·exact .inl h1
 ·exact .inr ⟨q,a,h1,h2,g.ok⟩
theorem LT.aT3 {t:LT} (h:t.all (Good P)):aYa P t.fa:=by
 refine ⟨fun k a ha=>?_,fun k a ha=>?_⟩
 ·rcases LT.find _ k t h with h1 | ⟨q,a',h1,h2,g⟩
  ·rw [h1.2] at ha;cases ha
  ·rw [h2] at ha;cases ha;exact g.loc
 ·rcases LT.find _ k t h with h1 | ⟨q,a',h1,h2,g⟩
  ·rw [h1.2] at ha;cases ha
  ·rw [h2] at ha;cases ha;exact g.sound
theorem a3i {t:LT} (ht:t.all (Good P)) {k:Nat} (hk:t.fq k=none) {c:Code} {nt:Nat} {rs:List ResultVar} (hft:FT P k=some (c,nt,rs)) {Y:Type} {T:Y→FF} {S:SF Y} (hS:Sh P t.fq T c S)
  {ar:List FV→Option Y} (har:∀ l x,ar l=some x→T x=⟨aB0 nt l,nt,[]⟩∧Nat.ble (aM7 l) nt=true) (q:Nat):Good P k (aqc P T S rs q ar) (a5c P t.fa q k):=by
 have hA:t.fa k=none:=by
  rcases LT.find _ k t ht with h1 | ⟨_,_,h1,_⟩
  ·exact h1.2
  ·rw [h1] at hk;cases hk
 have sS:=LT.aT3 ht
 refine ⟨fun x=>Loc.a5c sS.1 q k x,fun B σ m n l w W args v m' n' l' w' vals h1 h2 h3 h4 h5=>a7h sS q B σ m n l w W k args v m' n' l' w' vals h1 h2 h3 h4 h5,?_⟩
 exact aGi (LT.aNd ht) sS.1 hk hA hft hS har q
end
end V
end Go.CE
