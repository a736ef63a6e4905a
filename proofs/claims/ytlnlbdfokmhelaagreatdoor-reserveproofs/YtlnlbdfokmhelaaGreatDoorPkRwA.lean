/-
  Letters and envelopes of a reservation as they lie in memory.
-/
import Derived.Test.YtlnlbdfokmhelaaGreatDoorPkLn
import Derived.Test.YtlnlbdfokmhelaaGreatDoorPkOp
import Derived.Test.YtlnlbdfokmhelaaGreatDoorPkHash
import Derived.Test.YtlnlbdfokmhelaaGreatDoorPkKs
import Derived.Maps.AppendAt
import Derived.Laws.AppendOwn
import Derived.Deep.RegionLaw
import Derived.Test.YtlnlbdfokmhelaaGreatDoorPkQ
import Derived.Test.YtlnlbdfokmhelaaGreatDoorPkTab
set_option linter.unusedSectionVars false
set_option linter.constructorNameAsVariable false
set_option linter.unusedVariables false
set_option linter.unusedSimpArgs false
namespace Go.Proofs.YtlnlbdfokmhelaaGreatDoor
open Go.RowKit Go.CE.V
set_option maxRecDepth 20000
def a5h (W:World) (v:Value) (T z n:Nat) (f:Nat→Array Value):Prop := ∃ a c,v=.slice a n c∧(n≠0→∃ b o row,a=some ⟨b,o,none⟩∧obj W b=some (.cells row T (0,0))∧∀ i,i < n→o+i * z+z≤row.size∧row.extract (o+i * z) (o+i * z+z)=f i)
theorem a5h.below {W W':World} {v:Value} {T z n:Nat} {f:Nat→Array Value} (h:a5h W v T z n f) (hb:Below W.heap.size W W'):a5h W' v T z n f:=by
 obtain ⟨a,c,h1,h2⟩:=h
 refine ⟨a,c,h1,fun hn=>?_⟩
 obtain ⟨b,o,row,e1,e2,e3⟩:=h2 hn
 exact ⟨b,o,row,e1,a00 e2 hb (a04 e2),e3⟩
theorem a5h.congr {W:World} {v:Value} {T z n:Nat} {f g:Nat→Array Value} (h:a5h W v T z n f) (he:∀ i,i < n→f i=g i):a5h W v T z n g:=by
 obtain ⟨a,c,h1,h2⟩:=h
 refine ⟨a,c,h1,fun hn=>?_⟩
 obtain ⟨b,o,row,e1,e2,e3⟩:=h2 hn
 exact ⟨b,o,row,e1,e2,fun i hi=>⟨(e3 i hi).1,(e3 i hi).2.trans (he i hi)⟩⟩
def a3b (f:Nat→Array Value) (n:Nat):List Value:=(List.range n).flatMap fun i=>(f i).toList
theorem a2z (f:Nat→Array Value) (n:Nat):a3b f (n+1)=a3b f n++(f n).toList:=by simp [a3b,List.range_succ,List.flatMap_append]
theorem a3d {f g:Nat→Array Value} {n:Nat} (he:∀ i,i < n→f i=g i):a3b f n=a3b g n:=by
 induction n with
 | zero=>rfl
 | succ n ih=>rw [a2z,a2z,ih fun i hi=>he i (by omega),he n (by omega)]
theorem a9m {f:Nat→Array Value} {z n:Nat} (hz:∀ i,i < n→(f i).size=z):(a3b f n).length=n * z:=by
 induction n with
 | zero=>simp [a3b]
 | succ n ih =>
  rw [a2z,List.length_append,ih fun i hi=>hz i (by omega),Array.length_toList,hz n (by omega),Nat.succ_mul]
theorem amh {f:Nat→Array Value} {z n:Nat} (hz:∀ i,i < n→(f i).size=z) (i:Nat) (hi:i < n) (j:Nat) (hj:j < z):(a3b f n)[i * z+j]? = (f i)[j]? := by
 induction n with
 | zero=>omega
 | succ n ih =>
  have hl:=a9m (f:=f) (z:=z) (n:=n) fun i hi=>hz i (by omega)
  rw [a2z]
  by_cases h:i < n
  ·have:i * z+z≤n * z:=by rw [← Nat.succ_mul];exact Nat.mul_le_mul_right z h
   rw [List.getElem?_append_left (by omega)]
   exact ih (fun i hi=>hz i (by omega)) h
  ·obtain rfl:i=n:=by omega
   rw [List.getElem?_append_right (by omega),hl,show i * z+j - i * z=j by omega,Array.getElem?_toList]
theorem aey {w:World} {base T z n:Nat} {v:Value} {f:Nat→Array Value} (hz:∀ i,i < n→(f i).size=z) (h:w.ownsRow base T z v n (a3b f n)):a5h w v T z n f:=by
 rcases h.2 with ⟨rfl,h0⟩ | ⟨g,c,cur,rfl,h1,h2,h3,h4,h5,h6⟩
 ·exact ⟨none,0,by rw [h0],fun hn=>absurd h0 hn⟩
 ·refine ⟨_,c,rfl,fun _=>⟨g,0,cur,rfl,h2,fun i hi=>?_⟩⟩
  have hle:i * z+z≤n * z:=by rw [← Nat.succ_mul];exact Nat.mul_le_mul_right z hi
  have hle2:n * z≤c * z:=Nat.mul_le_mul_right z h3
  refine ⟨by omega,?_⟩
  apply Array.ext_getElem?
  intro j
  rw [Array.getElem?_extract]
  by_cases hj:j < z
  ·rw [if_pos (by omega),Nat.zero_add,← amh hz i hi j hj,← h6,List.getElem?_take,if_pos (by omega),Array.getElem?_toList]
  ·rw [if_neg (by omega),Array.getElem?_eq_none (by rw [hz i hi];omega)]
def a0c:LN:=⟨0,0,0,0,0,0,0,[],[]⟩
@[go_sem] theorem b3b (x:LN) (c:Value):(LN.let x c).kind=x.kind:=rfl
@[go_sem] theorem ln_frm (x:LN) (c:Value):(LN.let x c).frm=x.frm:=rfl
@[go_sem] theorem ln_dst (x:LN) (c:Value):(LN.let x c).dst=x.dst:=rfl
@[go_sem] theorem aZj (x:LN) (c:Value):(LN.let x c).cells=c:=rfl
@[go_sem] theorem ln_ref (x:LN) (c:Value):(LN.let x c).ref=x.ref:=rfl
@[go_sem] theorem b3a (x:LN) (c:Value):(LN.let x c).num 0=x.mtg:=rfl
@[go_sem] theorem b39 (x:LN) (c:Value):(LN.let x c).num 6=x.res:=rfl
@[go_sem] theorem aZi (x:LN) (c:Value):(LN.let x c).num 11=x.dl:=rfl
@[go_sem] theorem aZh (x:LN) (c:Value):(LN.let x c).num 12=x.st:=rfl
theorem a0v {B:Nat} {W:World} {v:Value} {l:List Nat} (h:a0h B W v l):v.oneCell' = true:=by
 rcases h with ⟨_,rfl | ⟨a,c,rfl⟩⟩ | ⟨_,b,o,c,row,rfl,_⟩<;>rfl
def a4w (B:Nat) (W:World) (v:Value) (xs:List LN):Prop := ∃ cv:Nat→Value,a5h W v 48 62 xs.length (fun i=>(LN.let (xs.getD i a0c) (cv i)).row)∧∀ i,i < xs.length→a0h B W (cv i) (xs.getD i a0c).cs
theorem a4w.below {B:Nat} {W W':World} {v:Value} {xs:List LN} (h:a4w B W v xs) (hb:Below W.heap.size W W'):a4w B W' v xs:=by
 obtain ⟨cv,h1,h2⟩:=h
 exact ⟨cv,h1.below hb,fun i hi=>(h2 i hi).below hb⟩
theorem a4w.mono {B B':Nat} {W:World} {v:Value} {xs:List LN} (h:a4w B W v xs) (hb:B'≤B):a4w B' W v xs:=by
 obtain ⟨cv,h1,h2⟩:=h
 exact ⟨cv,h1,fun i hi=>(h2 i hi).mono hb⟩
theorem _root_.Go.CE.V.SlZ.low {B B':Nat} {W:World} {v:Value} {T z n:Nat} {vs:List Value} (h:SlZ B W v T z n vs) (hb:B'≤B):SlZ B' W v T z n vs:=by
 obtain ⟨b,o,c,row,h1,h0,h2⟩:=h
 exact ⟨b,o,c,row,h1,Nat.le_trans hb h0,h2⟩
def atd (i:Nat):List UInt8:=((keysL.drop (32 * i)).take 32).map UInt8.ofNat
theorem adz (i:Nat) (hi:i < 5):(atd i).length=32:=by
 rcases (show i=0∨i=1∨i=2∨i=3∨i=4 by omega) with rfl | rfl | rfl | rfl | rfl<;>rfl
def a7r (W:World) (v:Value):Prop:=a5h W v 46 32 5 (fun i=>a0i (atd i))
theorem aGm (i:Nat) (hi:i < 5) (j:Nat) (hj:j < 32):(keysL.map fun n=>Value.int .u8 (.ofNat n))[i * 32+j]? = (a0i (atd i))[j]? := by
 have hk:i * 32+j < keysL.length:=by rw [show keysL.length=160 from rfl];omega
 have hb:keysL[i * 32+j] < 256:=(by decide:∀ n∈keysL,n < 256) _ (List.getElem_mem hk)
 rw [a5f _ _ (by rw [adz i hi];exact hj),List.getElem?_map,List.getElem?_eq_getElem hk]
 have e:(atd i).getD j 0=UInt8.ofNat keysL[i * 32+j]:=by
  unfold atd
  rw [List.getD_eq_getElem?_getD,List.getElem?_map,List.getElem?_take,if_pos hj,List.getElem?_drop,show 32 * i+j=i * 32+j by omega,List.getElem?_eq_getElem hk]
  rfl
 rw [e]
 generalize keysL[i * 32+j]=n at hb
 show some (Value.int .u8 (.ofNat n))=some (Value.int .u8 (((UInt8.ofNat n).toNat:Nat):Int))
 rw [show (UInt8.ofNat n).toNat=n by simp;omega]
 rfl
theorem aGk {W:World} {v:Value} (h:SlZ 0 W v 46 32 5 (keysL.map fun n=>Value.int .u8 (.ofNat n))):a7r W v:=by
 obtain ⟨b,o,c,row,rfl,_,h2,h3,h4,h5,h6⟩:=h
 refine ⟨_,c,rfl,fun _=>⟨b,o,row,rfl,h2,fun i hi=>?_⟩⟩
 have hle:5 * 32≤c * 32:=Nat.mul_le_mul_right 32 h4
 refine ⟨by omega,?_⟩
 apply Array.ext_getElem?
 intro j
 rw [Array.getElem?_extract]
 by_cases hj:j < 32
 ·rw [if_pos (by omega),Nat.add_assoc,h6 (i * 32+j) (by rw [h5];omega)]
  exact aGm i hi j hj
 ·rw [if_neg (by omega),Array.getElem?_eq_none (by rw [a0o,adz i hi];omega)]
theorem aas (W:World):Calls Tryz.prog 34 #[] W fun e W' => ∃ s,e=.returned s∧a7r W' s∧Below W.heap.size W W':=(ahw W).mono fun e W' ⟨s,he,hs,hb⟩=>⟨s,he,aGk (hs.low (Nat.zero_le _)),hb⟩
def a7m (x:LN) (q:Nat):List UInt8:=ap3 (atd x.frm) (hdr ⟨x.frm,x.dst,q,undef,[]⟩++LN.enc x)
def a05 (x:LN) (q:Nat) (body:Value):Env:=⟨x.frm,x.dst,q,body,a7m x q⟩
def a6i (W:World) (v:Value) (ps:List (LN×Nat)):Prop := ∃ bv:Nat→Value,a5h W v 78 36 ps.length (fun i=>(a05 (ps.getD i (a0c,0)).1 (ps.getD i (a0c,0)).2 (bv i)).row)∧∀ i,i < ps.length→Sl 0 W (bv i) 5 ((LN.enc (ps.getD i (a0c,0)).1).map fun c=>B8 c.toNat)
theorem a6i.below {W W':World} {v:Value} {ps:List (LN×Nat)} (h:a6i W v ps) (hb:Below W.heap.size W W'):a6i W' v ps:=by
 obtain ⟨bv,h1,h2⟩:=h
 exact ⟨bv,h1.below hb,fun i hi=>(h2 i hi).below hb⟩
theorem a96 {B:Nat} {W W':World} {v:Value} {T:Nat} {l:List Value} {b t:Nat} {c:Array Value} {fr:Nat×Nat} (h:Sl B W v T l) (hb:obj W b=some (.cells c t fr)) (hne:T≠t) (hk:∀ x,x≠b→obj W' x=obj W x):Sl B W' v T l:=by
 obtain ⟨g,o,cc,row,h1,h2,h3,h4⟩:=h
 refine ⟨g,o,cc,row,h1,h2,(hk g fun e=>?_).trans h3,h4⟩
 subst e
 have:=(show obj W g=some _ from h3).symm.trans hb
 injection this with this
 injection this with e1 e2 e3
 exact hne e2
theorem a2m {B:Nat} {W W':World} {v:Value} {l:List Nat} {b t:Nat} {c:Array Value} {fr:Nat×Nat} (h:a0h B W v l) (hb:obj W b=some (.cells c t fr)) (hne:3≠t) (hk:∀ x,x≠b→obj W' x=obj W x):a0h B W' v l:=by
 rcases h with h | ⟨h0,h1⟩
 ·exact .inl h
 ·exact .inr ⟨h0,a96 h1 hb hne hk⟩
theorem aez {W W':World} {v:Value} {T z n:Nat} {f:Nat→Array Value} {b t:Nat} {c:Array Value} {fr:Nat×Nat} (h:a5h W v T z n f) (hb:obj W b=some (.cells c t fr)) (hne:T≠t) (hk:∀ x,x≠b→obj W' x=obj W x):a5h W' v T z n f:=by
 obtain ⟨a,cc,h1,h2⟩:=h
 refine ⟨a,cc,h1,fun hn=>?_⟩
 obtain ⟨g,o,row,e1,e2,e3⟩:=h2 hn
 refine ⟨g,o,row,e1,(hk g fun e=>?_).trans e2,e3⟩
 subst e
 have:=e2.symm.trans hb
 injection this with this
 injection this with e1 e2 e3
 exact hne e2
theorem a0d {P:Program} {fn:Func} {p u:Tmp} {ty:TypeId} (h:fn.results=#[.cell p ty,.tmp u]) (tmps:Array Value) (w:World) (g:Nat) (t:TypeId) (cs:Array Value) (fr:Nat×Nat) (d:TypeDesc) (v:Value)
  (hp:tmps.getD p undef=.pointer (some ⟨g,0,none⟩)) (hg:w.heap[g]? = some (.cells cs t fr))
  (hu:P.underlying ty=some d) (hd:(match d with | .struct _ | .array _ _=>true | _=>false)=true) (hi:(P.info? ty).map (·.size)=some cs.size) (hv:tmps.getD u undef=v) :
  (results fn tmps).run P w=.ok (.tuple #[.agg cs,v]) w:=by
 rw [results_cell_tmp h,hp,hv]
 simp [asAddr,run_loadVar_row w g t ty cs fr d hg hu hd hi,Result.andThen]
theorem a1k (x:LN) (q:Nat) {b:Value} (hb:b.oneCell' = true):ones (a05 x q b).row=true:=by
 have:=a1t (a7m x q)
 unfold ones at this ⊢
 unfold Env.row a05
 rw [Array.all_append]
 exact Bool.and_eq_true_iff.2 ⟨by simp [hb,ack],this⟩
attribute [irreducible] atd
end Go.Proofs.YtlnlbdfokmhelaaGreatDoor
namespace Go.Proofs.YtlnlbdfokmhelaaGreatDoor
open Go.RowKit Go.CE.V
set_option maxRecDepth 20000
set_option maxHeartbeats 1000000
attribute [local irreducible] wpQuiet
theorem awv {B:Nat} {W:World} {v:Value} {l:List UInt8} (h:Sl B W v 5 (l.map fun c=>B8 c.toNat)):acd W v l:=by
 obtain ⟨b,o,c,row,hv,_,h2,h3,h4,h5⟩:=h
 rw [List.length_map] at hv h5
 refine ⟨_,_,c,hv,rfl,(fun e=>by cases e),fun ad had=>?_⟩
 cases had
 refine ⟨a04 (show obj W b=some _ from h2),fun j u hu=>?_⟩
 have hj:j < l.length:=by
  have:=(List.getElem?_eq_some_iff.1 hu).1
  rwa [a1m] at this
 rw [Addr.add_lit,a01 (show obj W b=some _ from h2),h5 j hj]
 unfold a0p at hu
 exact hu
theorem a7s {B:Nat} {W:World} {v:Value} {T:Nat} {l:List Value} (h:Sl B W v T l):v.oneCell' = true:=by
 obtain ⟨b,o,c,e,_⟩:=h.lt
 rw [e];rfl
theorem axi {W:World} {x:LN} {v:Value} (hx:x.Ok) (hv:a0h 0 W v x.cs) (h1:(LN.enc x).length≤1048576) (hT:Tab W) (h0w:0 < W.heap.size) :
  Calls Tryz.prog 125 #[.agg (LN.let x v).row] W fun r W'=>r=.returned (.tuple #[.agg (a0i (a3t (LN.enc x))),.int .i64 0])∧Below W.heap.size W W':=by
 have lz:=a0e (LN.let x v) hx.ref
 have la:=a15 (LN.let x v) hx.ref
 have HB:=Lib.hid (fun w' (hb:Below W.heap.size W w')=>ab3 hx (hv.below hb))
 have HT:=Lib.hid hT
 clear hT
 have k0:Below W.heap.size W ((W.alloc (.cells (LN.let x v).row 48 (0,0))).alloc (.cells z46 46 (0,0))):=((Below.refl _ _).alloc (Nat.le_refl _) _).alloc (by simp) _
 have k2:obj ((W.alloc (.cells (LN.let x v).row 48 (0,0))).alloc (.cells z46 46 (0,0))) (W.heap.size+1)=some (.cells z46 46 (0,0)):=a03 _ _ _ (by simp)
 have r1:(a0i (a3t (LN.enc x))).size=32:=by rw [a0o,a13]
 have r2:(a0i (a3t (LN.enc x))).extract 0 32=a0i (a3t (LN.enc x)):=a2v _ _ (a13 _)
 have r3:ones (a0i (a3t (LN.enc x)))=true:=a1t _
 have HS:=Lib.hid (fun w' v' (hv':acd w' v' (LN.enc x)) (hT':Tab w')=>ako (LN.enc x) v' (by omega) w' hv' hT')
 generalize a0i (a3t (LN.enc x))=R at *
 go_enter Tryz.func125,Tryz.ntmps125
 repeat' (first | (go_at_call 128;((with_reducible refine (HB.out _ k0).mono ?_));rintro r w1 ⟨s,rfl,hs,hb1⟩;have m2:=a00 k2 hb1 (a04 k2);have mB:=k0.trans (hb1.mono k0.size);have hs1:=awv hs;dsimp only) | (go_at_call 172;((with_reducible refine (HS.out _ _ hs1 (HT.out.below mB h0w)).mono ?_));rintro r w2 ⟨rfl,hb2⟩;have p2:=a00 m2 hb2 (a04 m2);have pB:=mB.trans (hb2.mono mB.size);dsimp only) | go_skip | go_guarded | go_step | go_upon)
 refine bodyPost_ret (a0d rfl _ _ (W.heap.size+1) 46 R _ _ (.int .i64 0) rfl (setRow_heap _ _ _ _ _ _ p2) Tryz.underlying46 rfl (by rw [r1];kernel_rfl) rfl) rfl ?_
 exact ⟨rfl,below_setRow pB (by omega) _⟩
def LN.to (x:LN) (d:Nat):LN:={ x with dst:=d }
theorem ajg (x:LN) (v:Value) (d:Nat):(LN.let x v).row.setIfInBounds 2 (.int .i64 d)=(LN.let (LN.to x d) v).row:=by
 rw [CE.V.a1i,CE.V.a1i]
 unfold LN.to
 simp
def a06 (mtg org dl:Nat) (v:Value):Array Value:=#[.int .i64 mtg,.int .i64 org,.int .i64 dl,v]
theorem aFm (mtg org dl:Nat) (v:Value):(a06 mtg org dl v).size=4:=rfl
theorem aP1 (mtg org dl:Nat) (v:Value):(a06 mtg org dl v).extract 0 4=a06 mtg org dl v:=extract_all _ _ rfl
theorem atn (mtg org dl:Nat) (v:Value):(a06 mtg org dl v)[0]? = some (.int .i64 mtg):=rfl
theorem aof (mtg org dl:Nat) (v:Value):(a06 mtg org dl v)[1]? = some (.int .i64 org):=rfl
theorem aFn (mtg org dl:Nat) (v:Value):(a06 mtg org dl v)[2]? = some (.int .i64 dl):=rfl
theorem ads (mtg org dl:Nat) (v:Value):(a06 mtg org dl v)[3]? = some v:=rfl
theorem a3c (mtg org dl:Nat) {v:Value} (h:v.oneCell' = true):ones (a06 mtg org dl v)=true:=by
 unfold a06
 simp [ones,ack,h]
attribute [go_sem] aFm aP1 atn aof aFn ads
attribute [irreducible] a06
def a2k (org:Nat) (x:LN):List UInt8:=a3t (LN.enc (LN.to x org))
theorem a4n (org:Nat) (x:LN):(a2k org x).length=32:=a13 _
theorem ahq {W:World} {x:LN} {v u:Value} {mtg org dl:Nat} (hx:(LN.to x org).Ok) (hv:a0h 0 W v x.cs) (h1:(LN.enc (LN.to x org)).length≤1048576) (hu:u.oneCell' = true) (hT:Tab W) (h0w:0 < W.heap.size) :
  Calls Tryz.prog 110 #[.agg (a06 mtg org dl u),.agg (LN.let x v).row] W fun r W'=>r=.returned (.agg (a0i (a2k org x)))∧Below W.heap.size W W':=by
 have lz:=a0e (LN.let x v) hx.ref
 have la:=a15 (LN.let x v) hx.ref
 have lz2:=a0e (LN.let (LN.to x org) v) hx.ref
 have la2:=a15 (LN.let (LN.to x org) v) hx.ref
 have hset:=ajg x v org
 have b3s:=a3c mtg org dl hu
 have r1:(a0i (a2k org x)).size=32:=by rw [a0o,a4n]
 have r2:(a0i (a2k org x)).extract 0 32=a0i (a2k org x):=a2v _ _ (a4n _ _)
 have r3:ones (a0i (a2k org x))=true:=a1t _
 have HR:=Lib.hid (fun w' (hb:Below W.heap.size W w')=>axi hx (hv.below hb) h1 (hT.below hb h0w) (Nat.lt_of_lt_of_le h0w hb.size))
 rw [show a3t (LN.enc (LN.to x org))=a2k org x from rfl] at HR
 have k1:obj (((W.alloc (.cells (a06 mtg org dl u) 144 (0,0))).alloc (.cells (LN.let x v).row 48 (0,0))).alloc (.cells z46 46 (0,0))) W.heap.size=some (.cells (a06 mtg org dl u) 144 (0,0)):=a02 (a02 (a03 _ _ _ rfl) _) _
 have k2:obj (((W.alloc (.cells (a06 mtg org dl u) 144 (0,0))).alloc (.cells (LN.let x v).row 48 (0,0))).alloc (.cells z46 46 (0,0))) (W.heap.size+1)=some (.cells (LN.let x v).row 48 (0,0)):=a02 (a03 _ _ _ (by simp)) _
 have k3:obj (((W.alloc (.cells (a06 mtg org dl u) 144 (0,0))).alloc (.cells (LN.let x v).row 48 (0,0))).alloc (.cells z46 46 (0,0))) (W.heap.size+1+1)=some (.cells z46 46 (0,0)):=a03 _ _ _ (by simp)
 have kB:Below W.heap.size W (((W.alloc (.cells (a06 mtg org dl u) 144 (0,0))).alloc (.cells (LN.let x v).row 48 (0,0))).alloc (.cells z46 46 (0,0))):=(((Below.refl _ _).alloc (Nat.le_refl _) _).alloc (by simp) _).alloc (by simp;omega) _
 have c1:=(a01 k1 1).trans (aof _ _ _ _)
 have q3:obj (((W.alloc (.cells (a06 mtg org dl u) 144 (0,0))).alloc (.cells (LN.let (LN.to x org) v).row 48 (0,0))).alloc (.cells z46 46 (0,0))) (W.heap.size+1+1)=some (.cells z46 46 (0,0)):=a03 _ _ _ (by simp)
 have qB:Below W.heap.size W (((W.alloc (.cells (a06 mtg org dl u) 144 (0,0))).alloc (.cells (LN.let (LN.to x org) v).row 48 (0,0))).alloc (.cells z46 46 (0,0))):=(((Below.refl _ _).alloc (Nat.le_refl _) _).alloc (by simp) _).alloc (by simp;omega) _
 have hv2:x.cs=(LN.to x org).cs:=rfl
 clear hv hT
 generalize a0i (a2k org x)=R at *
 go_enter Tryz.func110,Tryz.ntmps110
 repeat' (first | (go_at_call 125;((with_reducible refine (HR.out _ qB).mono ?_));rintro r w1 ⟨rfl,hb1⟩;have m3:=a00 q3 hb1 (by simp);have mB:=qB.trans (hb1.mono qB.size);have p3:=a02 m3 (.cells R 46 (0,0));have pB:=mB.alloc mB.size (.cells R 46 (0,0));dsimp only) | go_skip | go_guarded | go_step | go_upon)
 refine bodyPost_ret (results_cell_row rfl _ _ (W.heap.size+1+1) 46 R _ _ rfl (setRow_heap _ _ _ _ _ _ p3) Tryz.underlying46 rfl (by rw [r1];kernel_rfl)) rfl ?_
 exact ⟨rfl,below_setRow pB (by omega) _⟩
end Go.Proofs.YtlnlbdfokmhelaaGreatDoor
namespace Go.Proofs.YtlnlbdfokmhelaaGreatDoor
open Go.RowKit Go.CE.V
set_option maxRecDepth 20000
set_option maxHeartbeats 4000000
theorem a0s {B:Nat} {W:World} {v:Value} {l:List Nat} (h:a0h B W v l):a4r W v l:=by
 rcases h with ⟨rfl,rfl | ⟨a,c,rfl⟩⟩ | ⟨h0,b,o,c,row,h1,h2,h3,h4,h5,h6⟩
 ·exact ⟨_,_,rfl,fun h=>absurd rfl h⟩
 ·exact ⟨_,_,rfl,fun h=>absurd rfl h⟩
 ·rw [List.length_map] at h1 h5
  refine ⟨_,c,h1,fun _=>⟨b,o,row,rfl,h3,fun i hi=>?_⟩⟩
  rw [h6 i (by rw [List.length_map];exact hi),List.getElem?_map,List.getElem?_eq_getElem hi,List.getD_eq_getElem?_getD,List.getElem?_eq_getElem hi]
  rfl
theorem b53 (L:Let):L.row[3]? = some (.int .i64 (L.num 0)):=ad3 L 0 rfl
theorem aMq (L:Let):L.row[24]? = some (.int .i64 (L.num 11)):=ad3 L 11 rfl
theorem aYm (L:Let):L.row[25]? = some (.int .i64 (L.num 12)):=ad3 L 12 rfl
theorem a2o {W:World} {v:Value} {l:List Nat} (h:a4r W v l):v.oneCell' = true:=by
 obtain ⟨a,c,rfl,_⟩:=h
 rfl
def agy (mtg dl:Nat) (own:List Nat) (x:LN):Bool:=decide (x.mtg=mtg)&&decide (x.cs=own)&&(!(decide (x.kind=8)||decide (x.kind=9))||decide (x.dl=dl))
def a7b (mtg dl:Nat) (own:List Nat) (x:LN):Bool:=(decide (x.kind=9)||decide (x.kind=10))&&agy mtg dl own x&&decide (x.frm∈own)
theorem a5v {W:World} {x:LN} {c v:Value} {mtg org dl:Nat} {own:List Nat} (hr:x.ref.length=32) (hc:a4r W c x.cs) (hv:a4r W v own) (hz:x.cs.length≤1000000) :
    Calls Tryz.prog 151 #[.agg (a06 mtg org dl v),.agg (LN.let x c).row] W fun e W'=>e=.returned (.bool (agy mtg dl own x))∧Below W.heap.size W W':=by
  have lz:=a0e (LN.let x c) hr
  have la:=a15 (LN.let x c) hr
  have lo:=a0y (LN.let x c) (a2o hc)
  have po:=a3c mtg org dl (a2o hv)
  have k1:obj ((W.alloc (.cells (a06 mtg org dl v) 144 (0,0))).alloc (.cells (LN.let x c).row 48 (0,0))) W.heap.size=some (.cells (a06 mtg org dl v) 144 (0,0)):=a02 (a03 _ _ _ rfl) _
  have k2:obj ((W.alloc (.cells (a06 mtg org dl v) 144 (0,0))).alloc (.cells (LN.let x c).row 48 (0,0))) (W.heap.size+1)=some (.cells (LN.let x c).row 48 (0,0)):=a03 _ _ _ (by simp)
  have kB:Below W.heap.size W ((W.alloc (.cells (a06 mtg org dl v) 144 (0,0))).alloc (.cells (LN.let x c).row 48 (0,0))):=((Below.refl _ _).alloc (Nat.le_refl _) _).alloc (by simp) _
  have c0:=(a01 k1 0).trans (atn _ _ _ _)
  have c2:=(a01 k1 2).trans (aFn _ _ _ _)
  have c3:=(a01 k1 3).trans (ads _ _ _ _)
  have n0:=(a01 k2 0).trans (a8z _)
  have n3:=(a01 k2 3).trans (b53 _)
  have n24:=(a01 k2 24).trans (aMq _)
  have n29:=(a01 k2 29).trans (aid _)
  have HE:=Lib.hid (fun W' (hb:Below W.heap.size W W')=>adk (hc.below hb) (hv.below hb) hz)
  have e8:((x.kind:Int) == 8)=decide (x.kind=8):=a14 x.kind 8
  have e9:((x.kind:Int) == 9)=decide (x.kind=9):=a14 x.kind 9
  have em:=a14 x.mtg mtg
  have ed:=a14 x.dl dl
  unfold agy
  generalize decide (x.kind=8)=b8 at *
  generalize decide (x.kind=9)=b9 at *
  generalize decide (x.mtg=mtg)=bm at *
  generalize decide (x.dl=dl)=bd at *
  generalize decide (x.cs=own)=bc at *
  clear hc hv hr
  rcases (show bm=false∨(bm=true∧bc=false)∨(bm=true∧bc=true) by cases bm<;>cases bc<;>simp) with rfl | ⟨rfl,rfl⟩ | ⟨rfl,rfl⟩ <;>
  rcases (show b8=true∨(b8=false∧b9=true)∨(b8=false∧b9=false) by cases b8<;>cases b9<;>simp) with rfl | ⟨rfl,rfl⟩ | ⟨rfl,rfl⟩ <;>
  (go_enter Tryz.func151,Tryz.ntmps151
   repeat' (first | (go_at_call 116;((with_reducible refine (HE.out _ kB).mono ?_));rintro r w1 ⟨rfl,hb1⟩;have m1:=a00 k1 hb1 (a04 k1);have m2:=a00 k2 hb1 (a04 k2);have m24:=(a01 m2 24).trans (aMq _);have mc2:=(a01 m1 2).trans (aFn _ _ _ _);have mB:=kB.trans (hb1.mono kB.size);dsimp only) | go_skip | go_guarded | go_step | go_upon)
   go_ret
   exact ⟨by simp,by assumption⟩)
end Go.Proofs.YtlnlbdfokmhelaaGreatDoor
namespace Go.Proofs.YtlnlbdfokmhelaaGreatDoor
open Go.RowKit Go.CE.V
set_option maxRecDepth 20000
set_option maxHeartbeats 4000000
attribute [local irreducible] wpQuiet
theorem a7i {W:World} {x:LN} {c v:Value} {mtg org dl:Nat} {own:List Nat} (hr:x.ref.length=32) (hc:a4r W c x.cs) (hv:a4r W v own) (hz:x.cs.length≤1000000) (ho:own.length≤1000000) :
    Calls Tryz.prog 96 #[.agg (a06 mtg org dl v),.agg (LN.let x c).row] W fun e W'=>e=.returned (.bool (a7b mtg dl own x))∧Below W.heap.size W W':=by
  have lz:=a0e (LN.let x c) hr
  have la:=a15 (LN.let x c) hr
  have lo:=a0y (LN.let x c) (a2o hc)
  have po:=a3c mtg org dl (a2o hv)
  have k1:obj ((W.alloc (.cells (a06 mtg org dl v) 144 (0,0))).alloc (.cells (LN.let x c).row 48 (0,0))) W.heap.size=some (.cells (a06 mtg org dl v) 144 (0,0)):=a02 (a03 _ _ _ rfl) _
  have k2:obj ((W.alloc (.cells (a06 mtg org dl v) 144 (0,0))).alloc (.cells (LN.let x c).row 48 (0,0))) (W.heap.size+1)=some (.cells (LN.let x c).row 48 (0,0)):=a03 _ _ _ (by simp)
  have kB:Below W.heap.size W ((W.alloc (.cells (a06 mtg org dl v) 144 (0,0))).alloc (.cells (LN.let x c).row 48 (0,0))):=((Below.refl _ _).alloc (Nat.le_refl _) _).alloc (by simp) _
  have n0:=(a01 k2 0).trans (a8z _)
  have HC:=Lib.hid (fun W' (hb:Below W.heap.size W W')=>a5v (mtg:=mtg) (org:=org) (dl:=dl) hr (hc.below hb) (hv.below hb) hz)
  have HE:=Lib.hid (fun W' (hb:Below W.heap.size W W')=>a5u (hv.below hb) ho x.frm)
  have e9:((x.kind:Int) == 9)=decide (x.kind=9):=a14 x.kind 9
  have e10:((x.kind:Int) == 10)=decide (x.kind=10):=a14 x.kind 10
  unfold a7b
  generalize decide (x.kind=9)=b9 at *
  generalize decide (x.kind=10)=b10 at *
  generalize agy mtg dl own x=bc at *
  generalize decide (x.frm∈own)=bf at *
  clear hc hv hr
  rcases (show (b9=false∧b10=false)∨(b9=true∧bc=false)∨(b9=true∧bc=true)∨(b9=false∧b10=true∧bc=false)∨(b9=false∧b10=true∧bc=true) by cases b9<;>cases b10<;>cases bc<;>simp) with ⟨rfl,rfl⟩ | ⟨rfl,rfl⟩ | ⟨rfl,rfl⟩ | ⟨rfl,rfl,rfl⟩ | ⟨rfl,rfl,rfl⟩ <;>
  (go_enter Tryz.func96,Tryz.ntmps96
   repeat' (first | (go_at_call 151;((with_reducible refine (HC.out _ kB).mono ?_));rintro r w1 ⟨rfl,hb1⟩;have m1:=a00 k1 hb1 (a04 k1);have m2:=a00 k2 hb1 (a04 k2);have m3:=(a01 m1 3).trans (ads _ _ _ _);have mf:=(a01 m2 1).trans (ad4 _);have mB:=kB.trans (hb1.mono kB.size);dsimp only) | (go_at_call 118;((with_reducible refine (HE.out _ mB).mono ?_));rintro r w2 ⟨rfl,hb2⟩;have pB:=mB.trans (hb2.mono mB.size);dsimp only) | go_skip | go_guarded | go_step | go_upon)
   go_ret
   exact ⟨by simp,by assumption⟩)
theorem apl {W:World} {x:LN} {c:Value} {b o:Nat} (hr:x.ref.length=32) (hc:c.oneCell' = true) (hb:obj W b=some (.cells #[.int .i64 (o:Nat)] 3 (0,0))) :
    Calls Tryz.prog 162 #[.agg (LN.let x c).row,.pointer (some ⟨b,0,none⟩)] W fun e W'=>e=.returned (.bool (decide (x.kind=9)&&decide (x.frm=o)))∧Below W.heap.size W W':=by
  have lz:=a0e (LN.let x c) hr
  have la:=a15 (LN.let x c) hr
  have lo:=a0y (LN.let x c) hc
  have k1:=a02 hb (.cells (LN.let x c).row 48 (0,0))
  have k2:obj (W.alloc (.cells (LN.let x c).row 48 (0,0))) W.heap.size=some (.cells (LN.let x c).row 48 (0,0)):=a03 _ _ _ rfl
  have kB:Below W.heap.size W (W.alloc (.cells (LN.let x c).row 48 (0,0))):=(Below.refl _ _).alloc (Nat.le_refl _) _
  have n0:=(a01 k2 0).trans (a8z _)
  have n1:=(a01 k2 1).trans (ad4 _)
  have nb:=(a01 k1 0).trans (show (#[Value.int .i64 (o:Nat)]:Array Value)[0]? = some (.int .i64 (o:Nat)) from rfl)
  have e9:((x.kind:Int) == 9)=decide (x.kind=9):=a14 x.kind 9
  have eo:=a14 x.frm o
  generalize decide (x.kind=9)=b9 at *
  generalize decide (x.frm=o)=bo at *
  cases b9 <;>
  (go_enter Tryz.func162,Tryz.ntmps162
   repeat' (first | go_skip | go_guarded | go_step | go_upon)
   go_ret
   exact ⟨by simp,kB⟩)
theorem a6r {W:World} {x:LN} {c v:Value} {b mtg org dl:Nat} {own:List Nat} (hr:x.ref.length=32) (hc:a4r W c x.cs) (hv:a4r W v own) (hz:x.cs.length≤1000000) (ho:own.length≤1000000)
    (hb:obj W b=some (.cells (a06 mtg org dl v) 144 (0,0))) :
    Calls Tryz.prog 95 #[.agg (LN.let x c).row,.pointer (some ⟨b,0,none⟩)] W fun e W'=>e=.returned (.bool (decide (x.kind=10)&&a7b mtg dl own x))∧Below W.heap.size W W':=by
  have lz:=a0e (LN.let x c) hr
  have la:=a15 (LN.let x c) hr
  have lo:=a0y (LN.let x c) (a2o hc)
  have k1:=a02 hb (.cells (LN.let x c).row 48 (0,0))
  have k2:obj (W.alloc (.cells (LN.let x c).row 48 (0,0))) W.heap.size=some (.cells (LN.let x c).row 48 (0,0)):=a03 _ _ _ rfl
  have kB:Below W.heap.size W (W.alloc (.cells (LN.let x c).row 48 (0,0))):=(Below.refl _ _).alloc (Nat.le_refl _) _
  have n0:=(a01 k2 0).trans (a8z _)
  have HC:=Lib.hid (fun W' (hb:Below W.heap.size W W')=>a7i (mtg:=mtg) (org:=org) (dl:=dl) hr (hc.below hb) (hv.below hb) hz ho)
  have e10:((x.kind:Int) == 10)=decide (x.kind=10):=a14 x.kind 10
  generalize a7b mtg dl own x=ba at *
  generalize decide (x.kind=10)=b10 at *
  clear hc hv hr
  cases b10 <;>
  (go_enter Tryz.func95,Tryz.ntmps95
   repeat' (first | (go_at_call 96;((with_reducible refine (HC.out _ kB).mono ?_));rintro r w1 ⟨rfl,hb1⟩;have mB:=kB.trans (hb1.mono kB.size);dsimp only) | go_skip | go_guarded | go_step | go_upon)
   go_ret
   exact ⟨by simp,by assumption⟩)
theorem aur {W:World} {x:LN} {c v:Value} {b g mtg org dl:Nat} {ref:List UInt8} (hr:x.ref.length=32) (hrr:ref.length=32) (hc:c.oneCell' = true)
    (hb:obj W b=some (.cells (a06 mtg org dl v) 144 (0,0))) (hg:obj W g=some (.cells (a0i ref) 46 (0,0))) :
    Calls Tryz.prog 154 #[.agg (LN.let x c).row,.pointer (some ⟨b,0,none⟩),.pointer (some ⟨g,0,none⟩)] W fun e W'=>e=.returned (.bool (decide (x.kind=11)&&decide (x.frm=org)&&decide (x.st=1)&&decide (x.ref=ref)))∧Below W.heap.size W W':=by
  have lz:=a0e (LN.let x c) hr
  have la:=a15 (LN.let x c) hr
  have lo:=a0y (LN.let x c) hc
  have k1:=a02 hb (.cells (LN.let x c).row 48 (0,0))
  have k3:=a02 hg (.cells (LN.let x c).row 48 (0,0))
  have k2:obj (W.alloc (.cells (LN.let x c).row 48 (0,0))) W.heap.size=some (.cells (LN.let x c).row 48 (0,0)):=a03 _ _ _ rfl
  have kB:Below W.heap.size W (W.alloc (.cells (LN.let x c).row 48 (0,0))):=(Below.refl _ _).alloc (Nat.le_refl _) _
  have n0:=(a01 k2 0).trans (a8z _)
  have n1:=(a01 k2 1).trans (ad4 _)
  have n25:=(a01 k2 25).trans (aYm _)
  have np:=(a01 k1 1).trans (aof _ _ _ _)
  have lr:=aBd (LN.let x c) hr
  have r1:(a0i ref).size=32:=by rw [a0o,hrr]
  have r2:(a0i ref).extract 0 32=a0i ref:=a2v _ _ hrr
  have HQ:=aA2 x.ref ref hr hrr
  have e11:((x.kind:Int) == 11)=decide (x.kind=11):=a14 x.kind 11
  have eo:=a14 x.frm org
  have es:((x.st:Int) == 1)=decide (x.st=1):=a14 x.st 1
  generalize decide (x.kind=11)=b11 at *
  generalize decide (x.frm=org)=bo at *
  generalize decide (x.st=1)=bs at *
  generalize decide (x.ref=ref)=br at *
  rw [show (LN.let x c).ref=x.ref from rfl] at lr
  rcases (show b11=false∨(b11=true∧bo=false)∨(b11=true∧bo=true∧bs=false)∨(b11=true∧bo=true∧bs=true) by cases b11<;>cases bo<;>cases bs<;>simp) with rfl | ⟨rfl,rfl⟩ | ⟨rfl,rfl,rfl⟩ | ⟨rfl,rfl,rfl⟩ <;>
  (go_enter Tryz.func154,Tryz.ntmps154
   repeat' (first | go_skip | go_guarded | go_step | go_upon)
   go_ret
   exact ⟨by simp,kB⟩)
theorem av6 {W:World} {x l:LN} {c v u:Value} {b g mtg org dl:Nat} (hr:x.ref.length=32) (hrr:l.ref.length=32) (hx:x.kind=10→(LN.to x org).Ok) (hv:a0h 0 W c x.cs) (h1:x.kind=10→(LN.enc (LN.to x org)).length≤1048576) (hu:v.oneCell' = true) (hT:Tab W) (h0w:0 < W.heap.size)
  (hb:obj W b=some (.cells (a06 mtg org dl v) 144 (0,0))) (hg:obj W g=some (.cells (LN.let l u).row 48 (0,0))) :
  Calls Tryz.prog 152 #[.agg (LN.let x c).row,.pointer (some ⟨b,0,none⟩),.pointer (some ⟨g,0,none⟩)] W fun e W'=>e=.returned (.bool (decide (x.kind=10)&&decide (a2k org x=l.ref)))∧Below W.heap.size W W':=by
 have lz:=a0e (LN.let x c) hr
 have la:=a15 (LN.let x c) hr
 have lo:=a0y (LN.let x c) (a0v hv)
 have lz2:=a0e (LN.let l u) hrr
 have k1:=a02 hb (.cells (LN.let x c).row 48 (0,0))
 have k3:=a02 hg (.cells (LN.let x c).row 48 (0,0))
 have k2:obj (W.alloc (.cells (LN.let x c).row 48 (0,0))) W.heap.size=some (.cells (LN.let x c).row 48 (0,0)):=a03 _ _ _ rfl
 have kB:Below W.heap.size W (W.alloc (.cells (LN.let x c).row 48 (0,0))):=(Below.refl _ _).alloc (Nat.le_refl _) _
 have lr:=aBd (LN.let l u) hrr
 have HQ:=aA2 (a2k org x) l.ref (a4n _ _) hrr
 have HM:Hid (x.kind=10→∀ W',Below W.heap.size W W'→Calls Tryz.prog 110 #[.agg (a06 mtg org dl v),.agg (LN.let x c).row] W' fun r W''=>r=.returned (.agg (a0i (a2k org x)))∧Below W'.heap.size W' W''):=Lib.hid fun hk W' hb'=>ahq (hx hk) (hv.below hb') (h1 hk) hu (hT.below hb' h0w) (Nat.lt_of_lt_of_le h0w hb'.size)
 have e10:((x.kind:Int) == 10)=decide (x.kind=10):=a14 x.kind 10
 rw [show (LN.let l u).ref=l.ref from rfl] at lr
 have HK:=Lib.hid (fun (h:decide (x.kind=10)=true)=>of_decide_eq_true h)
 generalize decide (x.kind=10)=b10 at *
 generalize decide (a2k org x=l.ref)=bq at *
 generalize a0i (a2k org x)=R at *
 have hz2:(62≤(LN.let l u).row.size)=True:=eq_true (by omega)
 clear hx h1 hv hT hb hg
 have lt1:=a04 k1
 have lt2:=a04 k2
 have lt3:=a04 k3
 have HM3:Hid (b10=true→∀ W',Below (W.alloc (.cells (LN.let x c).row 48 (0,0))).heap.size (W.alloc (.cells (LN.let x c).row 48 (0,0))) W'→Calls Tryz.prog 110 #[.agg (a06 mtg org dl v),.agg (LN.let x c).row] W' fun r W''=>r=.returned (.agg R)∧Below W'.heap.size W' W''):=Lib.hid fun hk W' hb'=>HM.out (HK.out hk) W' (kB.trans (hb'.mono kB.size))
 clear HM HK
 cases b10
 ·clear HM3
  go_enter Tryz.func152,Tryz.ntmps152
  repeat' (first | go_skip | go_guarded | go_step | go_upon)
  generalize W.alloc (.cells (LN.let x c).row 48 (0,0))=W1 at *
  (refine a2x (by kernel_rfl) (by kernel_rfl) ?_;(repeat (refine wpQuiet_step (fun K hK=>?_);go_simp;first | (refine hK _ ?_;clear hK K) | (apply Exists.intro;refine ⟨fun W hW=>?_,hK _ ?_⟩;(focus ((first | (with_reducible exact rfl) | ((have p1:=a00 k1 hW lt1;have p2:=a00 k2 hW lt2;have p3:=a00 k3 hW lt3;have n0:=(a01 p2 0).trans (a8z _));(try go_simp);first | done | (with_reducible exact rfl) | (with_reducible exact ⟨rfl,rfl⟩) | (skip)));done));clear hK K)));refine wpQuiet_nil ?_;intro W2 hW2)
  repeat' (first | go_skip | go_guarded | go_step | go_upon)
  go_ret
  exact ⟨rfl,kB.trans (hW2.mono kB.size)⟩
 ·have HM4:=Lib.hid (HM3.out rfl)
  clear HM3
  go_enter Tryz.func152,Tryz.ntmps152
  repeat' (first | go_skip | go_guarded | go_step | go_upon)
  generalize W.alloc (.cells (LN.let x c).row 48 (0,0))=W1 at *
  (refine a2x (by kernel_rfl) (by kernel_rfl) ?_;(repeat (refine wpQuiet_step (fun K hK=>?_);go_simp;first | (refine hK _ ?_;clear hK K) | (apply Exists.intro;refine ⟨fun W hW=>?_,hK _ ?_⟩;(focus ((first | (with_reducible exact rfl) | ((have p1:=a00 k1 hW lt1;have p2:=a00 k2 hW lt2;have p3:=a00 k3 hW lt3;have n0:=(a01 p2 0).trans (a8z _));(try go_simp);first | done | (with_reducible exact rfl) | (with_reducible exact ⟨rfl,rfl⟩) | (first | (with_reducible exact a4q hW (HM4.out W hW)) | (rw [HQ];(with_reducible exact ⟨rfl,rfl⟩)) | (simp only [HQ];go_simp;(with_reducible exact rfl)))));done));clear hK K)));refine wpQuiet_nil ?_;intro W2 hW2)
  repeat' (first | go_skip | go_guarded | go_step | go_upon)
  go_ret
  exact ⟨rfl,kB.trans (hW2.mono kB.size)⟩
end Go.Proofs.YtlnlbdfokmhelaaGreatDoor
