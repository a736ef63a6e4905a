/-
  The laws of XRow at the types of this translation.
-/
import Derived.Test.YtppjleebbjipbaaGreatQkZsr
set_option linter.all false
namespace Go.Proofs.YtppjleebbjipbaaGreat
@[go_sem ↓] theorem la_138 (v:Value):Instr.loadAt 138 v=a0j 138 v:=rfl
@[go_sem] theorem ld_138 (v:Value) (w:World):(a0j 138 v).run Tryz.prog w=loadRow Tryz.prog 138 2 v w:=a0h 138 2 v w _ Tryz.underlying138 rfl (by kernel_rfl)
@[go_sem ↓] theorem sa_138 (a x:Value):Instr.storeAt 138 a x=a0e 138 a x:=rfl
@[go_sem] theorem st_138 (a x:Value) (w:World):(a0e 138 a x).run Tryz.prog w=a0r Tryz.prog 138 2 a x w:=a0f 138 2 a x w (by kernel_rfl)
@[go_sem ↓] theorem la_231 (v:Value):Instr.loadAt 231 v=a0j 231 v:=rfl
@[go_sem] theorem ld_231 (v:Value) (w:World):(a0j 231 v).run Tryz.prog w=loadRow Tryz.prog 231 3 v w:=a0h 231 3 v w _ Tryz.underlying231 rfl (by kernel_rfl)
@[go_sem ↓] theorem sa_231 (a x:Value):Instr.storeAt 231 a x=a0e 231 a x:=rfl
@[go_sem] theorem st_231 (a x:Value) (w:World):(a0e 231 a x).run Tryz.prog w=a0r Tryz.prog 231 3 a x w:=a0f 231 3 a x w (by kernel_rfl)
end Go.Proofs.YtppjleebbjipbaaGreat
namespace Zn
def farB (t:Int):Bool:=decide (t < -2251799813685248)||decide (2251799813685248 < t)
def rngB (l:List Tr):Bool := !(l.any fun s=>farB s.tm||farB s.off)
def hasB (l:List Tr) (t:Int):Bool:=l.any fun s=>decide (s.tm≤t)&&decide (t < s.off)
def ordB (l:List Tr):Prop:=∀ i,i < l.length→(l.getD i default).tm < (l.getD i default).off∧(0 < i→(l.getD (i - 1) default).off < (l.getD i default).tm)
end Zn
namespace Go.Proofs.YtppjleebbjipbaaGreat
open Go.RowKit Go.Shelf
set_option maxRecDepth 20000
set_option maxHeartbeats 8000000
theorem far_calls (W:World) (t:Int):Calls Tryz.prog 130 #[.int .i64 t] W fun e w'=>e=.returned (.bool (Zn.farB t))∧W=w':=by
 go_enter Tryz.func130,Tryz.ntmps130
 unfold Zn.farB
 by_cases h1:t < -2251799813685248
 ·repeat'(first|go_skip|go_guarded|go_step|go_upon)
  go_ret
  exact ⟨by simp [h1],rfl⟩
 by_cases h2:2251799813685248 < t
 ·repeat'(first|go_skip|go_guarded|go_step|go_upon)
  go_ret
  exact ⟨by simp [h1,h2],rfl⟩
 repeat'(first|go_skip|go_guarded|go_step|go_upon)
 go_ret
 exact ⟨by simp [h1,h2],rfl⟩
theorem rg1_calls (W:World) (x:Zn.Tr):Calls Tryz.prog 129 #[.agg #[x.tm,x.off]] W fun e w'=>e=.returned (.bool (Zn.farB x.tm||Zn.farB x.off))∧Below W W w':=by
 have hon:ones #[x.tm,x.off]=true:=by simp [ones,a0n]
 have A1:=(zC W.heap.size W).alloc (zD _) (.cells #[x.tm,x.off] 77)
 have o0:obj (W.alloc (.cells #[x.tm,x.off] 77)) W.heap.size=some (.cells #[x.tm,x.off] 77 (0,0)):=a05 _ _ _ rfl
 have c0:=a02 o0 0
 have c1:=a02 o0 1
 have H1:=zA (fun Wq:World=>far_calls Wq x.tm)
 have H2:=zA (fun Wq:World=>far_calls Wq x.off)
 generalize Zn.farB x.tm=a at *
 generalize Zn.farB x.off=b at *
 go_enter Tryz.func129,Tryz.ntmps129
 cases a
 ·repeat' (first | (go_at_call 130;((with_reducible refine (H1.out _).mono ?_));rintro e w5 ⟨rfl,rfl⟩;dsimp only) | (go_at_call 130;((with_reducible refine (H2.out _).mono ?_));rintro e w6 ⟨rfl,rfl⟩;dsimp only)|go_skip|go_guarded|go_step|go_upon)
  go_ret
  exact ⟨rfl,A1⟩
 repeat' (first | (go_at_call 130;((with_reducible refine (H1.out _).mono ?_));rintro e w5 ⟨rfl,rfl⟩;dsimp only)|go_skip|go_guarded|go_step|go_upon)
 go_ret
 exact ⟨rfl,A1⟩
theorem rg_index {W:World} {v:Value} {l:List Zn.Tr} (hv:a2b W v l) (hl:l.length≤1000000000) :
  Calls Tryz.prog 131 #[v,.func (.func 129) #[] #[]] W fun e w'=>(∃ r:Int,e=.returned (.int .i64 r)∧(0≤r↔l.any (fun s:Zn.Tr=>Zn.farB s.tm||Zn.farB s.off)=true))∧Below W W w':=by
 have HCN:=zA (fun (Wq:World) (hq:Below W W Wq) (x:Zn.Tr)=>show Calls Tryz.prog 129 #[.agg #[x.tm,x.off]] Wq fun e w'=>e=.returned (.bool ((fun s:Zn.Tr=>Zn.farB s.tm||Zn.farB s.off) x))∧Below Wq Wq w' from rg1_calls Wq x)
 obtain ⟨ao,c,rfl,hq⟩:=hv
 have HQ:=zA hq
 clear hq
 obtain ⟨P,hP⟩ : ∃ P:Zn.Tr→Bool,P=fun s:Zn.Tr=>Zn.farB s.tm||Zn.farB s.off:=⟨_,rfl⟩
 rw [← hP] at HCN ⊢
 clear hP
 go_enter Tryz.func131,Tryz.ntmps131
 repeat'(first|go_skip|go_guarded|go_step|go_upon)
 go_loopw [5,8] (fun _ i wr => ∃ k:Nat,k≤l.length∧i=.int .i64 k∧(l.take k).any P=false∧Below W W wr) (fun _ i _=>((l.length:Int) - intOf i).toNat)
 case atStart=>exact ⟨0,xG _,rfl,by simp,zC _ _⟩
 obtain ⟨k,hk,rfl,hn,hB⟩:=hrel
 have HN:=zA hn
 clear hn
 by_cases hlk:k < l.length;rotate_left
 ·have i1 : ¬ (k:Int) < (l.length:Int):=by omega
  have HR:Hid (l.any P=false):=zA (by have:=HN.out;rw [show k=l.length by omega,wY] at this;exact this)
  repeat'(first|go_skip|go_guarded|go_step|go_upon)
  go_ret
  exact ⟨⟨_,rfl,⟨fun h=>by omega,fun h=>by rw [HR.out] at h;cases h⟩⟩,hB⟩
 have i1:(k:Int) < (l.length:Int):=by omega
 obtain ⟨b,o,row,T,fr,rfl,q1,q2⟩:=HQ.out (by omega)
 obtain ⟨z0,k2⟩:=q2 k hlk
 have z1:(o+k * 2+2≤row.size)=True:=xN z0
 have kw:=a04 q1 hB (a09 q1)
 have HTK:Hid (l.take (k+1)=l.take k ++ [l.getD k default]):=zA (Zn.take_snoc hlk default)
 have HMX:Hid (l.getD k default∈l):=zA (by rw [zB,zK hlk];exact yT hlk)
 obtain ⟨x,hx⟩ : ∃ x,l.getD k default=x:=⟨_,rfl⟩
 rw [hx] at HTK HMX
 have k3:row.extract (o+k * 2) (o+k * 2+2)=#[.int .i64 x.tm,.int .i64 x.off]:=by have:=k2;dsimp only at this;rw [hx] at this;exact this
 clear q1 q2 k2 z0 hx
 have hon:ones #[x.tm,x.off]=true:=by simp [ones,a0n]
 have HX:=zA (HCN.out wr hB x)
 obtain ⟨px,hpx⟩ : ∃ px,P x=px:=⟨_,rfl⟩
 rw [hpx] at HX
 cases px
 ·have HNX:Hid ((l.take (k+1)).any P=false):=zA (by rw [HTK.out,List.any_append,HN.out];simp [hpx])
  clear hpx
  repeat' (first | (go_at_call 129;((with_reducible refine (HX.out).mono ?_));rintro e w5 ⟨rfl,hB5⟩;have hB6:=hB.trans (hB5.mono hB.size);dsimp only)|go_skip|go_guarded|go_step|go_upon)
  exact ⟨⟨k+1,by omega,by go_num,HNX.out,hB6⟩,by simp [intOf]<;>omega⟩
 have HR:Hid (l.any P=true):=zA (List.any_eq_true.2 ⟨x,HMX.out,hpx⟩)
 clear hpx
 repeat' (first | (go_at_call 129;((with_reducible refine (HX.out).mono ?_));rintro e w5 ⟨rfl,hB5⟩;have hB6:=hB.trans (hB5.mono hB.size);dsimp only)|go_skip|go_guarded|go_step|go_upon)
 go_ret
 exact ⟨⟨_,rfl,⟨fun _=>HR.out,fun _=>by omega⟩⟩,hB6⟩
theorem rg_contains {W:World} {v:Value} {l:List Zn.Tr} (hv:a2b W v l) (hl:l.length≤1000000000) :
  Calls Tryz.prog 91 #[v,.func (.func 129) #[] #[]] W fun e w'=>e=.returned (.bool (l.any (fun s:Zn.Tr=>Zn.farB s.tm||Zn.farB s.off)))∧Below W W w':=by
 have HX:=zA (rg_index hv hl)
 obtain ⟨ao,c,rfl,_⟩:=hv
 obtain ⟨b,hb⟩ : ∃ b,b=l.any (fun s:Zn.Tr=>Zn.farB s.tm||Zn.farB s.off):=⟨_,rfl⟩
 rw [← hb] at HX ⊢
 clear hb
 go_enter Tryz.func91,Tryz.ntmps91
 repeat' ((go_not_at_region 1);(first|go_skip|go_guarded|go_step|go_upon))
 cases b
 ·repeat' (first | (go_at_call 131;((with_reducible refine (HX.out).mono ?_));rintro e w5 ⟨⟨r,rfl,hr⟩,hB5⟩;have i1 : ¬ (0:Int)≤r:=(fun h=>by cases hr.1 h);clear hr;dsimp only)|go_skip|go_guarded|go_step|go_upon)
  go_ret
  exact ⟨rfl,hB5⟩
 repeat' (first | (go_at_call 131;((with_reducible refine (HX.out).mono ?_));rintro e w5 ⟨⟨r,rfl,hr⟩,hB5⟩;have i1:(0:Int)≤r:=hr.2 rfl;clear hr;dsimp only)|go_skip|go_guarded|go_step|go_upon)
 go_ret
 exact ⟨rfl,hB5⟩
theorem ranged_calls {W:World} {v:Value} {l:List Zn.Tr} (hv:a2b W v l) (hl:l.length≤1000000000) :
  Calls Tryz.prog 90 #[v] W fun e w'=>e=.returned (.bool (Zn.rngB l))∧Below W W w':=by
 have HX:=zA (rg_contains hv hl)
 obtain ⟨ao,c,rfl,_⟩:=hv
 unfold Zn.rngB
 generalize l.any (fun s:Zn.Tr=>Zn.farB s.tm||Zn.farB s.off)=b at *
 go_enter Tryz.func90,Tryz.ntmps90
 cases b
 ·repeat' (first | (go_at_call 91;((with_reducible refine (HX.out).mono ?_));rintro e w5 ⟨rfl,hB5⟩;dsimp only)|go_skip|go_guarded|go_step|go_upon)
  go_ret
  exact ⟨rfl,hB5⟩
 repeat' (first | (go_at_call 91;((with_reducible refine (HX.out).mono ?_));rintro e w5 ⟨rfl,hB5⟩;dsimp only)|go_skip|go_guarded|go_step|go_upon)
 go_ret
 exact ⟨rfl,hB5⟩
end Go.Proofs.YtppjleebbjipbaaGreat
namespace Zn
structure Bd where
 at_:Int
 li:Int
 by_:Int
 deriving DecidableEq,Inhabited
end Zn
namespace Go.Proofs.YtppjleebbjipbaaGreat
open Go.RowKit Go.Shelf
set_option maxRecDepth 20000
set_option maxHeartbeats 8000000
def bdRow (x:Zn.Bd):Array Value:=#[.int .i64 x.at_,.int .i64 x.li,.int .i64 x.by_]
def BdsV (W:World) (v:Value) (l:List Zn.Bd):Prop:=a1m W v l.length 3 fun i=>bdRow (l.getD i default)
def encBd (x:Zn.Bd):List Value:=[.int .i64 x.at_,.int .i64 x.li,.int .i64 x.by_]
def valB (l:List Zn.Bd):List Value:=l.flatMap encBd
theorem bdcmp_calls {W:World} {t u:Zn.Bd}:Calls Tryz.prog 210 #[.agg #[t.at_,t.li,t.by_],.agg #[u.at_,u.li,u.by_]] W fun e w'=>e=.returned (.int .i64 (a9o t.at_ u.at_))∧w' = (W.alloc (.cells #[t.at_,t.li,t.by_] 231)).alloc (.cells #[u.at_,u.li,u.by_] 231):=by
 have HC:=zA (fun Wq:World=>@a5w Wq t.at_ u.at_)
 have hon:ones #[t.at_,t.li,t.by_]=true:=by simp [ones,a0n]
 have alr:ones #[u.at_,u.li,u.by_]=true:=by simp [ones,a0n]
 go_enter Tryz.func210,Tryz.ntmps210
 repeat' (first | (go_at_call 110;((with_reducible refine ((HC.out _)).mono ?_));rintro e w5 ⟨rfl,rfl⟩;dsimp only)|go_skip|go_guarded|go_step|go_upon)
 go_ret
 exact ⟨rfl,rfl⟩
theorem ltBd (x y:Zn.Bd):ltOf (fun x y:Zn.Bd=>a9o x.at_ y.at_) x y=decide (x.at_ < y.at_):=by
 unfold ltOf a9o
 by_cases h1:x.at_ < y.at_
 ·simp [h1]
 by_cases h2:y.at_ < x.at_<;>simp [h1,h2]
theorem swoBd:Go.Sort.SWO (ltOf fun x y:Zn.Bd=>a9o x.at_ y.at_) where
 irrefl x:=by rw [ltBd];simp
 trans x y z h1 h2:=by rw [ltBd] at *;simp at *;omega
 ntrans x y z h1 h2:=by rw [ltBd] at *;simp at *;omega
theorem cmpBd (blk off size:Nat) (w:World):CmpLays Tryz.prog 210 #[] encBd 3 (fun x y:Zn.Bd=>a9o x.at_ y.at_) blk off size w :=
 fun _ _ _ _ x y=>(bdcmp_calls (t:=x) (u:=y)).mono fun _ _ ⟨h1,h2⟩=>by
  subst h2
  exact ⟨h1,0,_,by rw [Go.Sort.alloc_eq_grow,Go.Sort.alloc_eq_grow,Go.Sort.grow_grow];rfl⟩
theorem div3 (i j:Nat) (h:j < 3):(i * 3+j) / 3=i∧(i * 3+j) % 3=j:=by omega
theorem flat_encB (es:List Zn.Bd) (j:Nat) (hj:j < es.length * 3):(es.flatMap encBd)[j]? = (encBd (es.getD (j / 3) default))[j % 3]? := by
 induction es generalizing j with
 | nil=>simp at hj
 | cons x es ih =>
  rw [List.flatMap_cons]
  by_cases h3:j < 3
  ·rw [xF (by simpa [encBd] using h3),Nat.div_eq_of_lt h3,Nat.mod_eq_of_lt h3]
   rfl
  rw [yZ (by simp [encBd];omega)]
  have e:(encBd x).length=3:=rfl
  rw [e,ih (j - 3) (by simp at hj;omega),show j / 3=(j - 3) / 3+1 by omega,show (j - 3) % 3=j % 3 by omega]
  rfl
theorem sortb_calls {W:World} {base:Nat} {v:Value} {l:List Zn.Bd} (hown:W.ownsRow base 231 3 v l.length (valB l)) (hl:l.length≤10000000) :
  Calls Tryz.prog 209 #[v,.func (.func 210) #[] #[]] W fun e w'=>e=.returned (.tuple #[])∧(∃ l':List Zn.Bd,l'.Perm l∧(l'.Pairwise fun a b=>a.at_≤b.at_)∧BdsV w' v l')∧a1x W.heap.size (fun k=>base≤k) W w':=by
 rcases hown.2 with ⟨rfl,h0⟩ | ⟨g,c,cur,rfl,hbg,h2,h3,h4,h5,h6⟩
 ·have hl0:l = []:=yH.1 h0
  have hcon:=AnyF.slices_SortFunc_none Tryz.sortBd none 0 (.func (.func 210) #[] #[]) W
  change Calls Tryz.prog 209 _ _ _ at hcon
  refine hcon.mono ?_
  rintro e w' ⟨rfl,rfl⟩
  exact ⟨rfl,⟨[],by rw [hl0],List.Pairwise.nil,⟨none,0,rfl,fun h=>absurd h (by simp)⟩⟩,⟨rfl,rfl,rfl,zD _,fun _ _ _=>rfl⟩⟩
 by_cases hl0':l.length=0
 ·have hl0:l = []:=yH.1 hl0'
  have hcon:=AnyF.slices_SortFunc_none Tryz.sortBd (some ⟨g,0,none⟩) c (.func (.func 210) #[] #[]) W
  change Calls Tryz.prog 209 _ _ _ at hcon
  rw [hl0']
  refine hcon.mono ?_
  rintro e w' ⟨rfl,rfl⟩
  exact ⟨rfl,⟨[],by rw [hl0],List.Pairwise.nil,⟨some ⟨g,0,none⟩,c,rfl,fun h=>absurd h (uB 0)⟩⟩,⟨rfl,rfl,rfl,zD _,fun _ _ _=>rfl⟩⟩
 have h2':W.heap[g]? = some (.cells cur 231 (0,0)):=h2
 have lb:=a09 (w:=W) h2
 have hcell:∀ j,j < l.length * 3→cur[j]? = (encBd (l.getD (j / 3) default))[j % 3]? := fun j hj=>by
  unfold valB at h6
  rw [← flat_encB l j (by omega),← h6,xQ,zQ hj,yU]
 have hH:Go.Sort.HoldsK encBd 3 W g 0 l.toArray:=by
  intro j hj
  have hj':j < l.length * 3:=by simpa using hj
  refine ⟨?_,a0d h2 _⟩
  have hg:=Go.Sort.get_flatK encBd 3 l.toArray j (by simpa using hj)
  rw [a02 h2 (0+j),yI,hcell j hj']
  show _=some (id (Go.Sort.flatK encBd 3 l.toArray)[j]!)
  rw [hg]
  have hd:l.toArray[j / 3]! = l.getD (j / 3) default:=by
   rw [zB];simp
  rw [hd]
  have hm:j % 3 < 3:=wJ _ (by decide)
  generalize j % 3=q at *
  match q,hm with
  | 0,_=>rfl
  | 1,_=>rfl
  | 2,_=>rfl
  | q+3,h=>omega
 have eg:∀ args w,(callFunc 210 args).run Tryz.prog w=.ok (.enter 210 args) w:=enters_of Tryz.func210 (by kernel_rfl) rfl
 have hcon:=AnyQ.slices_SortFunc Tryz.sortBd 3 Tryz.isAgg231 Tryz.sizeOf231 encBd (fun _=>rfl) (fun x v hv=>by simp [encBd] at hv;rcases hv with rfl | rfl | rfl<;>rfl) (fun x y:Zn.Bd=>a9o x.at_ y.at_) swoBd 210 #[] g 0 c l.toArray W eg (cmpBd g 0 l.toArray.size W) hH lb (by simp;omega)
 change Calls Tryz.prog 209 _ _ _ at hcon
 rw [xJ] at hcon
 refine hcon.mono ?_
 rintro e w' ⟨rfl,d,n,os,hp,hs,rfl⟩
 have hds:d.size=l.length:=by have:=hp.1;simpa using this
 have hpm:d.toList.Perm l:=by
  have:=hp.2.2
  have e1:d.extract 0 l.length=d:=by rw [← hds];simp
  rw [e1] at this
  simpa using this
 have hb':(sortWorldK encBd 3 W g 0 n d os).heap[g]? = some (.cells (Go.Sort.putCells id 0 (Go.Sort.flatK encBd 3 d) cur) 231 (0,0)):=by
  show (Go.Sort.grow (Go.Sort.putRow id (Go.Sort.ahead W n) g 0 (Go.Sort.flatK encBd 3 d)) os).heap[g]? = _
  simp only [Go.Sort.grow,Go.Sort.putRow,Go.Sort.mapBlock,Go.Sort.ahead]
  rw [xH (by simpa using lb),xR,zQ rfl,h2']
  rfl
 refine ⟨rfl,⟨d.toList,hpm,?_,⟨some ⟨g,0,none⟩,c,by simp [hds],fun _=>⟨g,0,_,231,(0,0),rfl,hb',fun i hi=>?_⟩⟩⟩,?_⟩
 ·rw [wH]
  intro i j hi hj hij
  have hq:=hs i j (xG _) hij (by rw [← hds];simpa using hj)
  rw [ltBd,uI] at hq
  have e1:∀ k (hk:k < d.toList.length),d.toList[k]=d[k]! := fun k hk=>by
   rw [vH,yB,zT (by simpa using hk)];simp
  rw [e1,e1]
  omega
 ·have hi':i < d.size:=by simpa using hi
  have hps:(Go.Sort.putCells id 0 (Go.Sort.flatK encBd 3 d) cur).size=cur.size:=by simp [Go.Sort.putCells]
  have hcs:i * 3+3≤cur.size:=by rw [h5];omega
  have hcell2:∀ j,j < 3→(Go.Sort.putCells id 0 (Go.Sort.flatK encBd 3 d) cur)[0+i * 3+j]? = some ((encBd d[i]!)[j]!):=fun j hj=>by
   (have hr:i * 3+j < cur.size:=by omega);simp only [Go.Sort.putCells,yI,Array.getElem?_mapIdx,zT hr,Option.map_some];rw [zQ ⟨xG _,by simp;omega⟩,Nat.sub_zero,Go.Sort.get_flatK _ _ _ _ (by omega),(div3 i j hj).1,(div3 i j hj).2];rfl
  have hd:d[i]! = d.toList.getD i default:=by
   rw [zB,vH,yB,yU]
  refine ⟨by rw [hps];omega,?_⟩
  apply wQ
  intro j
  rw [wG]
  rcases j with _ | _ | _ | j
  ·rw [zQ (by omega),hcell2 0 (by omega),hd];rfl
  ·rw [zQ (by omega),hcell2 1 (by omega),hd];rfl
  ·rw [zQ (by omega),hcell2 2 (by omega),hd];rfl
  rw [zS (by omega)];rfl
 refine ⟨rfl,rfl,rfl,?_,fun k hk hn=>?_⟩
 ·show W.heap.size≤(Go.Sort.grow (Go.Sort.putRow id (Go.Sort.ahead W n) g 0 (Go.Sort.flatK encBd 3 d)) os).heap.size
  simp [Go.Sort.grow,Go.Sort.putRow,Go.Sort.mapBlock,Go.Sort.ahead]
 show (Go.Sort.grow (Go.Sort.putRow id (Go.Sort.ahead W n) g 0 (Go.Sort.flatK encBd 3 d)) os).heap[k]? = _
 simp only [Go.Sort.grow,Go.Sort.putRow,Go.Sort.mapBlock,Go.Sort.ahead]
 rw [xH (by simpa using hk),xR,zS (fun e=>hn (by subst e;exact hbg))]
end Go.Proofs.YtppjleebbjipbaaGreat
namespace Zn
def bdsOf (l:List Tr):List Bd:=l.flatMap fun s=>if s.tm < s.off then [⟨s.tm,0,1⟩,⟨s.off,0,-1⟩] else []
theorem bdsOf_snoc (l:List Tr) (s:Tr):bdsOf (l ++ [s])=bdsOf l++(if s.tm < s.off then [⟨s.tm,0,1⟩,⟨s.off,0,-1⟩] else []):=by
 unfold bdsOf
 rw [List.flatMap_append]
 simp
theorem bdsOf_len:∀ l:List Tr,(bdsOf l).length≤2 * l.length
 | []=>by simp [bdsOf]
 | s :: l=>by
  have:=bdsOf_len l
  unfold bdsOf at this ⊢
  rw [List.flatMap_cons,zX,yS]
  have h2:(if s.tm < s.off then [(⟨s.tm,0,1⟩:Bd),⟨s.off,0,-1⟩] else []).length≤2:=by split<;>simp
  omega
end Zn
namespace Go.Proofs.YtppjleebbjipbaaGreat
open Go.RowKit Go.Shelf
set_option maxRecDepth 20000
set_option maxHeartbeats 8000000
theorem info_bd : ∃ i,Tryz.prog.info? 231=some i∧i.zero=some (.agg #[(0:Int),(0:Int),(0:Int)])∧i.size=3∧i.bytes=24 :=
 info_parts (show (Tryz.prog.info? 231).map (fun i=>(i.zero,i.size,i.bytes))=some (some (.agg #[(0:Int),(0:Int),(0:Int)]),3,24) by kernel_rfl)
theorem wpList_append_bd2 {w:World} {ops:Array Oper} {rest:List Oper} {o:Oper} {a:Act} {Q:Exit→Act→World→Prop} (hgd:o.guard=none) (s x:Operand)
  (ho:o.op=.call { callee:=.builtin .append,args:=#[s,x],argTypes:=#[227,227] })
  (base k:Nat) (v:Value) (xs:List Value) (hs:a.eval s=v) (hown:w.ownsRow base 231 3 v k xs)
  (g:Nat) (p q:Int) (hx:a.eval x=.slice (some ⟨g,0,none⟩) 2 2) (hg:obj w g=some (.cells #[p,(0:Int),(1:Int),q,(0:Int),(-1:Int)] 231 (0,0))) (h63:k≤100000000000) (hb:base≤w.heap.size)
  (h:∀ v' w',w'.ownsRow base 231 3 v' (k+2) (xs ++ [.int .i64 p,.int .i64 0,.int .i64 1,.int .i64 q,.int .i64 0,.int .i64 (-1)])→w.grownBy w' v.ownBlock→wpList Tryz.prog ops Q rest (a.put o.dst v') w'):wpList Tryz.prog ops Q (o :: rest) a w:=by
 obtain ⟨i0,hi,hz0,hz1,hz2⟩:=info_bd
 refine uD w hgd s x _ ho base _ i0 _ 3 24 Tryz.underlying227 hi hz0 hz1 hz2 rfl (by decide) v k _ hs hown ⟨g,0,none⟩ 2 2 [.int .i64 p,.int .i64 0,.int .i64 1,.int .i64 q,.int .i64 0,.int .i64 (-1)] hx rfl (fun j q hq=>?_) (fun q hq=>?_) (by unfold maxLen;omega) (by omega) hb fun v' w' q1 q2 _=>h v' w' q1 q2
 ·rcases j with _ | _ | _ | _ | _ | _ | j
  ·cases hq;exact a02 hg 0
  ·cases hq;exact a02 hg 1
  ·cases hq;exact a02 hg 2
  ·cases hq;exact a02 hg 3
  ·cases hq;exact a02 hg 4
  ·cases hq;exact a02 hg 5
  cases hq
 simp only [yN,xE,or_false] at hq
 rcases hq with rfl | rfl | rfl | rfl | rfl | rfl<;>rfl
theorem owns_sl {w:World} {base T z:Nat} {v:Value} {n:Nat} {xs:List Value} (h:w.ownsRow base T z v n xs) : ∃ a c,v=.slice a n c:=by
 rcases h.2 with ⟨rfl,h0⟩ | ⟨g,c,cur,rfl,_⟩
 ·exact ⟨none,0,by rw [h0]⟩
 exact ⟨_,c,rfl⟩
theorem bounds_calls {W:World} {v:Value} {l:List Zn.Tr} (hv:a2b W v l) (hl:l.length≤1000000) :
  Calls Tryz.prog 202 #[v,.slice none 0 0] W fun e w'=>(∃ v' B,e=.returned v'∧BdsV w' v' B∧B.Perm (Zn.bdsOf l)∧(B.Pairwise fun a b=>a.at_≤b.at_))∧Below W W w':=by
 obtain ⟨ao,c,rfl,hq⟩:=hv
 have HQ:=zA hq
 clear hq
 have A1:=(zC W.heap.size W).alloc (zD _) (.cells #[.slice ao l.length c,.slice none 0 0] 73)
 have o1:obj (W.alloc (.cells #[.slice ao l.length c,.slice none 0 0] 73)) W.heap.size=some (.cells #[.slice ao l.length c,.slice none 0 0] 73 (0,0)):=a05 _ _ _ rfl
 go_enter Tryz.func202,Tryz.ntmps202
 repeat'(first|go_skip|go_guarded|go_step|go_upon)
 go_loopw [5,14] (fun lv iv wr => ∃ i:Int,(i=0∨i=1∨i=2)∧iv=.int .i64 i∧wr.ownsRow W.heap.size 231 3 lv (Zn.bdsOf (if i=0 then [] else l)).length (valB (Zn.bdsOf (if i=0 then [] else l)))∧obj wr W.heap.size=some (.cells #[.slice ao l.length c,.slice none 0 0] 73 (0,0))∧Below W W wr) (fun _ iv _=>(2 - intOf iv).toNat)
 case atStart=>exact ⟨0,.inl rfl,rfl,⟨rfl,.inl ⟨rfl,rfl⟩⟩,o1,A1⟩
 clear o1 A1
 obtain ⟨i,hi,rfl,how,kl,hB⟩:=hrel
 have hbl:=Zn.bdsOf_len l
 rcases hi with rfl | rfl | rfl
 ·have c0:=a02 kl 0
  have how:wr.ownsRow W.heap.size 231 3 _ (Zn.bdsOf []).length (valB (Zn.bdsOf [])):=how
  repeat'(first|go_skip|go_guarded|go_step|go_upon)
  clear c0
  go_loopw [5,21] (fun lv kv wz => ∃ k:Nat,k≤l.length∧kv=.int .i64 k∧wz.ownsRow W.heap.size 231 3 lv (Zn.bdsOf (l.take k)).length (valB (Zn.bdsOf (l.take k)))∧obj wz W.heap.size=some (.cells #[.slice ao l.length c,.slice none 0 0] 73 (0,0))∧Below W W wz) (fun _ kv _=>((l.length:Int) - intOf kv).toNat)
  case atStart=>exact ⟨0,by omega,rfl,by rw [List.take_zero];exact how,kl,hB⟩
  clear how kl hB
  obtain ⟨k,hk,rfl,how,kl,hB⟩:=hrel
  have hbk:(Zn.bdsOf (l.take k)).length≤2000000:=by have:=Zn.bdsOf_len (l.take k);rw [wR] at this;omega
  obtain ⟨la,lc,hlv⟩:=owns_sl how
  subst hlv
  by_cases hlk:k < l.length;rotate_left
  ·have i1 : ¬ (k:Int) < (l.length:Int):=by omega
   have how:wr.ownsRow W.heap.size 231 3 (.slice la (Zn.bdsOf (l.take k)).length lc) (Zn.bdsOf l).length (valB (Zn.bdsOf l)):=by have e:l.take k=l:=List.take_of_length_le (by omega);rw [e] at how ⊢;exact how
   repeat'(first|go_skip|go_guarded|go_step|go_upon)
   exact ⟨⟨1,by omega,rfl,how,kl,hB⟩,by simp [intOf]⟩
  have i1:(k:Int) < (l.length:Int):=by omega
  obtain ⟨b,o,row,T,fr,rfl,q1,q2⟩:=HQ.out (by omega)
  obtain ⟨z0,k2⟩:=q2 k hlk
  have z1:(o+k * 2+2≤row.size)=True:=xN z0
  have kw:=a04 q1 hB (a09 q1)
  have HTK:Hid (Zn.bdsOf (l.take (k+1))=Zn.bdsOf (l.take k)++(if (l.getD k default).tm < (l.getD k default).off then [⟨(l.getD k default).tm,0,1⟩,⟨(l.getD k default).off,0,-1⟩] else [])):=zA (by rw [Zn.take_snoc hlk default,Zn.bdsOf_snoc])
  obtain ⟨x,hx⟩ : ∃ x,l.getD k default=x:=⟨_,rfl⟩
  rw [hx] at HTK
  have k3:row.extract (o+k * 2) (o+k * 2+2)=#[.int .i64 x.tm,.int .i64 x.off]:=by have:=k2;dsimp only at this;rw [hx] at this;exact this
  clear q1 q2 k2 z0 hx
  have hon:ones #[x.tm,x.off]=true:=by simp [ones,a0n]
  have A5:=(zC wr.heap.size wr).alloc (zD _) (.cells #[x.tm,x.off] 77)
  have d8:obj (wr.alloc (.cells #[x.tm,x.off] 77)) wr.heap.size=some (.cells #[x.tm,x.off] 77 (0,0)):=a05 _ _ _ rfl
  repeat' ((go_not_at_region 8);(first|go_skip|go_guarded|go_step|go_upon))
  have how:=a0m how A5
  have kl:=a0a kl A5
  have hB:=hB.trans (A5.mono hB.size)
  clear kw
  generalize (wr.alloc (.cells #[x.tm,x.off] 77))=wz at *
  generalize wr.heap.size=b8 at *
  have c80:=a02 d8 0
  have c81:=a02 d8 1
  by_cases hlt:x.tm < x.off
  ·rw [zQ hlt] at HTK
   have A6:=(zC wz.heap.size wz).alloc (zD _) (.cells #[x.tm,(0:Int),(1:Int),x.off,(0:Int),(-1:Int)] 231);have ow7:=a0m how A6;have n6:obj (wz.alloc (.cells #[x.tm,(0:Int),(1:Int),x.off,(0:Int),(-1:Int)] 231)) wz.heap.size=some (.cells #[x.tm,(0:Int),(1:Int),x.off,(0:Int),(-1:Int)] 231 (0,0)):=a05 _ _ _ rfl;have kl7:=a0a kl A6;have nB:=hB.trans (A6.mono hB.size);have nsz:=nB.size
   repeat' (first | (at_builtin;(refine wpList_append_bd2 rfl _ _ rfl W.heap.size (Zn.bdsOf (l.take k)).length (.slice la (Zn.bdsOf (l.take k)).length lc) (valB (Zn.bdsOf (l.take k))) rfl ow7 wz.heap.size x.tm x.off rfl n6 (by omega) nsz ?_);intro v5 W5 a3p hg5;have hg:(wz.alloc (.cells #[x.tm,(0:Int),(1:Int),x.off,(0:Int),(-1:Int)] 231)).grownBy W5 (Value.slice la (Zn.bdsOf (l.take k)).length lc).ownBlock:=hg5;clear hg5;have el:=a19 ow7 kl7 (by decide) hg;have eB:=nB.grown hg nsz (fun g q=>a1p ow7 q);dsimp only)|go_skip|go_guarded|go_step|go_upon)
   exact ⟨⟨k+1,by omega,by go_num,by rw [HTK.out];unfold valB at a3p ⊢;rw [List.flatMap_append,zX];exact a3p,el,eB⟩,by simp [intOf]<;>omega⟩
  rw [zS hlt,uA] at HTK
  repeat'(first|go_skip|go_guarded|go_step|go_upon)
  exact ⟨⟨k+1,by omega,by go_num,by rw [HTK.out];exact how,kl,hB⟩,by simp [intOf]<;>omega⟩
 ·have c1:=a02 kl 1
  have how:wr.ownsRow W.heap.size 231 3 _ (Zn.bdsOf l).length (valB (Zn.bdsOf l)):=how
  repeat'(first|go_skip|go_guarded|go_step|go_upon)
  clear c1
  go_loopw [5,21] (fun lv kv wz=>kv=.int .i64 0∧wz.ownsRow W.heap.size 231 3 lv (Zn.bdsOf l).length (valB (Zn.bdsOf l))∧obj wz W.heap.size=some (.cells #[.slice ao l.length c,.slice none 0 0] 73 (0,0))∧Below W W wz) (fun _ _ _=>0)
  case atStart=>exact ⟨rfl,how,kl,hB⟩
  clear how kl hB;obtain ⟨rfl,how,kl,hB⟩:=hrel;(repeat'(first|go_skip|go_guarded|go_step|go_upon));exact ⟨⟨2,by omega,rfl,how,kl,hB⟩,by simp [intOf]⟩
 have how:wr.ownsRow W.heap.size 231 3 _ (Zn.bdsOf l).length (valB (Zn.bdsOf l)):=how
 have HS:=zA (sortb_calls how (by omega))
 repeat' (first | (go_at_call 209;((with_reducible refine ((HS.out).mono ?_)));rintro e w5 ⟨rfl,⟨B,hp,hs,hbv⟩,hX5⟩;have hB5:=hB.trans (hX5.below hB.size (fun k hk h=>by have h:W.heap.size≤k:=h;omega));dsimp only)|go_skip|go_guarded|go_step|go_upon)
 go_ret
 exact ⟨⟨_,B,rfl,hbv,hp,hs⟩,hB5⟩
end Go.Proofs.YtppjleebbjipbaaGreat
