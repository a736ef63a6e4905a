/-
  Zones that are spoiled in one place are not valid (plain).
-/
import Derived.Test.YtppjleebbjipbaaGreatQkZpg
import Derived.Test.YtppjleebbjipbaaGreatQkZtd
import Derived.Test.YtppjleebbjipbaaGreatQkZor
set_option linter.all false
namespace Zn
theorem made_cal (x:Raw):(made x).cal=a0t x:=by unfold made;split<;>rfl
end Zn
namespace Zn
def cutsK (f u:Int) (l:List Tr) (k:Nat):List Int:=[f,u]++(l.take k).map (·.tm)
def pieceK (a b:a0w) (S:List Int):Nat→List Tr
 | 0=>[]
 | k+1=>pieceK a b S k++(if a2u a (S.getD k 0)=a2u b (S.getD k 0) then [] else [⟨S.getD k 0,S.getD (k+1) 0⟩])
theorem pieceK_len (a b:a0w) (S:List Int):∀ k,(pieceK a b S k).length≤k
 | 0=>zD 0
 | k+1=>by
  have:=pieceK_len a b S k
  show (pieceK a b S k++_).length≤k+1
  rw [zX]
  split<;>simp<;>omega
theorem pieceK_mem {a b:a0w} {S:List Int} {s:Tr}:∀ {k:Nat},k < S.length→s∈pieceK a b S k→s.tm∈S∧s.off∈S
 | 0,_,h=>by cases h
 | k+1,hk,h=>by
  have hm:∀ i,i < S.length→S.getD i 0∈S:=fun i hi=>by rw [zB,zK hi];exact yT hi
  rcases yJ.1 h with h | h
  ·exact pieceK_mem (by omega) h
  ·split at h
   ·cases h
   ·rw [yD.1 h]
    exact ⟨hm k (by omega),hm (k+1) hk⟩
theorem cutsK_len (f u:Int) (l:List Tr) {k:Nat} (h:k≤l.length):(cutsK f u l k).length=k+2:=by
 unfold cutsK
 simp [wR]
 omega
theorem cutsK_succ (f u:Int) (l:List Tr) {k:Nat} (h:k < l.length):cutsK f u l (k+1)=cutsK f u l k ++ [(l.getD k default).tm]:=by
 unfold cutsK
 rw [take_snoc h default,List.map_append,List.append_assoc]
 rfl
theorem cutsK_in {f u:Int} {l:List Tr} (hfu:f≤u) (hin:∀ x,x∈l→f≤x.tm∧x.tm < u) {t:Int} (h:t∈a2z (cutsK f u l l.length)):f≤t∧t≤u:=by
 rw [(a4n _).mem_iff] at h
 unfold cutsK at h
 rw [wY] at h
 rcases yJ.1 h with h | h
 ·simp only [yN,xE,or_false] at h
  omega
 obtain ⟨x,hx,rfl⟩:=List.mem_map.1 h
 have:=hin x hx
 omega
end Zn
namespace Go.Proofs.YtppjleebbjipbaaGreat
open Go.RowKit Go.Shelf
set_option maxRecDepth 20000
set_option maxHeartbeats 8000000
theorem valI_snoc (l:List Int) (x:Int):a4m (l ++ [x])=a4m l ++ [.int .i64 x]:=by simp [a4m]
theorem Diff_calls (HO:OpenSpec) {W:World} {a b:Zn.a0w} {mva rva tva yva mvb rvb tvb yvb:Value} (hva:a1q W a mva rva tva yva) (hra:a.cal.rules.length < 9223372036854775808) (hma:a.cal.a0g.length < 9223372036854775808) (hvb:a1q W b mvb rvb tvb yvb) (hrb:b.cal.rules.length < 9223372036854775808) (hmb:b.cal.a0g.length < 9223372036854775808) (hga:Zn.Good a) (hgb:Zn.Good b) {f u:Int} (hf : -2251799813685248≤f) (hu:u≤2251799813685248) (hfu:f≤u)
  {la lb:List Zn.Tr} (hca:Zn.a2i a (Zn.ysT a) (Zn.a0s a) f u=some la) (hcb:Zn.a2i b (Zn.ysT b) (Zn.a0s b) f u=some lb) (hla:la.length≤10000) (hlb:lb.length≤10000) (hin:∀ x,x∈la++lb→f≤x.tm∧x.tm < u) :
  Calls Tryz.prog 41 #[.agg #[a.cal.a08,mva,a.cal.a0l,rva,a.start,tva,a.hor,yva],.agg #[b.cal.a08,mvb,b.cal.a0l,rvb,b.start,tvb,b.hor,yvb],.agg #[f,u]] W fun e w'=>(∃ v L,e=.returned (.tuple #[v,.int .i64 0])∧a2b w' v L∧Zn.NormL (Zn.pieceK a b (Zn.a2z (Zn.cutsK f u (la++lb) (la++lb).length)) ((la++lb).length+1)) L∧Zn.rngB L=true∧L.length≤1000000)∧Below W W w':=by
 have hona:ones #[a.cal.a08,mva,a.cal.a0l,rva,a.start,tva,a.hor,yva]=true:=a1b hva.cal.mon.one hva.cal.rul.one (a1m.one hva.tr) (a1m.one hva.yr)
 have honb:ones #[b.cal.a08,mvb,b.cal.a0l,rvb,b.start,tvb,b.hor,yvb]=true:=a1b hvb.cal.mon.one hvb.cal.rul.one (a1m.one hvb.tr) (a1m.one hvb.yr)
 have hons:ones #[f,u]=true:=by simp [ones,a0n]
 have hB0:Below W W (((W.alloc (.cells #[a.cal.a08,mva,a.cal.a0l,rva,a.start,tva,a.hor,yva] 35)).alloc (.cells #[b.cal.a08,mvb,b.cal.a0l,rvb,b.start,tvb,b.hor,yvb] 35)).alloc (.cells #[f,u] 77)):=(((bR.alloc (zD _) _).alloc (by simp) _).alloc (by simp;omega) _)
 have oa:obj (((W.alloc (.cells #[a.cal.a08,mva,a.cal.a0l,rva,a.start,tva,a.hor,yva] 35)).alloc (.cells #[b.cal.a08,mvb,b.cal.a0l,rvb,b.start,tvb,b.hor,yvb] 35)).alloc (.cells #[f,u] 77)) W.heap.size=some (.cells #[a.cal.a08,mva,a.cal.a0l,rva,a.start,tva,a.hor,yva] 35 (0,0)):=a06 (a06 (a05 _ _ _ rfl) _) _
 have ob:obj (((W.alloc (.cells #[a.cal.a08,mva,a.cal.a0l,rva,a.start,tva,a.hor,yva] 35)).alloc (.cells #[b.cal.a08,mvb,b.cal.a0l,rvb,b.start,tvb,b.hor,yvb] 35)).alloc (.cells #[f,u] 77)) (W.heap.size+1)=some (.cells #[b.cal.a08,mvb,b.cal.a0l,rvb,b.start,tvb,b.hor,yvb] 35 (0,0)):=a06 (a05 _ _ _ (by simp)) _
 have os:obj (((W.alloc (.cells #[a.cal.a08,mva,a.cal.a0l,rva,a.start,tva,a.hor,yva] 35)).alloc (.cells #[b.cal.a08,mvb,b.cal.a0l,rvb,b.start,tvb,b.hor,yvb] 35)).alloc (.cells #[f,u] 77)) (W.heap.size+2)=some (.cells #[f,u] 77 (0,0)):=a05 _ _ _ (by simp)
 have HA:=zA (fun (Wq:World) (hq:Below W W Wq)=>acs HO (hva.below hq) hra hma f u)
 have HB:=zA (fun (Wq:World) (hq:Below W W Wq)=>acs HO (hvb.below hq) hrb hmb f u)
 have hba:=Zn.a0v.2 hga
 have hbb:=Zn.a0v.2 hgb
 rw [show Zn.adz a f u=(la,0) by unfold Zn.adz;rw [zQ ⟨hba,⟨hf,by omega⟩,⟨by omega,hu⟩,hfu⟩,hca]] at HA
 rw [show Zn.adz b f u=(lb,0) by unfold Zn.adz;rw [zQ ⟨hbb,⟨hf,by omega⟩,⟨by omega,hu⟩,hfu⟩,hcb]] at HB
 have HOA:=zA (fun (Wq:World) (hq:Below W W Wq)=>HO (hva.below hq) hra hma (InD.all (v:=tva) (l:=a.trans)))
 have HOB:=zA (fun (Wq:World) (hq:Below W W Wq)=>HO (hvb.below hq) hrb hmb (InD.all (v:=tvb) (l:=b.trans)))
 unfold a3z at HOA HOB
 rw [hba] at HOA
 rw [hbb] at HOB
 have hla8:la.length≤100000000:=yG hla (by decide)
 have hlb8:lb.length≤100000000:=yG hlb (by decide)
 have HKA:=zA hga.ck
 have HKB:=zA hgb.ck
 have HIN:=zA hin
 clear hva hvb hca hcb hba hbb hga hgb hin
 go_enter Tryz.func41,Tryz.ntmps41
 repeat' ((go_not_at_region 1);(first|go_skip|go_guarded|go_step|go_upon))
 generalize (((W.alloc (.cells #[a.cal.a08,mva,a.cal.a0l,rva,a.start,tva,a.hor,yva] 35)).alloc (.cells #[b.cal.a08,mvb,b.cal.a0l,rvb,b.start,tvb,b.hor,yvb] 35)).alloc (.cells #[f,u] 77))=V at *
 have s0:=a02 os 0
 have s1:=a02 os 1
 repeat' ((go_not_at_region 2);(first | (go_at_call 35;((with_reducible refine ((HA.out _ hB0).mono ?_)));rintro e w1 ⟨⟨v1,rfl,ht1⟩,hB'⟩;have hB1:=hB0.trans (hB'.mono hB0.size);have oa1:=a0a oa hB';have ob1:=a0a ob hB';have os1:=a0a os hB';have t0:=a02 os1 0;have t1:=a02 os1 1;dsimp only)|go_skip|go_guarded|go_step|go_upon))
 clear s0 s1 oa ob os hB'
 repeat' ((go_not_at_region 3);(first | (go_at_call 35;((with_reducible refine ((HB.out _ hB1).mono ?_)));rintro e w2 ⟨⟨v2,rfl,ht2⟩,hB'⟩;have hB2:=hB1.trans (hB'.mono hB1.size);have oa2:=a0a oa1 hB';have ob2:=a0a ob1 hB';have os2:=a0a os1 hB';have ht1':=a1m.below ht1 hB';dsimp only)|go_skip|go_guarded|go_step|go_upon))
 have HT1:=zA ht1'
 have HT2:=zA ht2
 clear t0 t1 oa1 ob1 os1 ht1 ht1' ht2 hB1 hB0
 repeat' ((go_not_at_region 8);(first | (go_at_call 54;((with_reducible refine ((HOA.out _ hB2).mono ?_)));rintro e w3 ⟨⟨p,rfl,hg⟩,hBc⟩;obtain ⟨ga,hpg,hck,_⟩:=hg rfl;subst hpg;have hB3:=hB2.trans (hBc.mono hB2.size);have ob3:=a0a ob2 hBc;have os3:=a0a os2 hBc;have HCA:=zA hck.clk;dsimp only)|go_skip|go_guarded|go_step|go_upon))
 clear ob2 os2 oa2
 repeat' ((go_not_at_region 9);(first | (go_at_call 54;((with_reducible refine ((HOB.out _ hB3).mono ?_)));rintro e w8 ⟨⟨p,rfl,hg⟩,hBd⟩;obtain ⟨gb,hpg,hck,_⟩:=hg rfl;subst hpg;have hB8:=hB3.trans (hBd.mono hB3.size);have os8:=a0a os3 hBd;have HCB:=zA hck.clk;dsimp only)|go_skip|go_guarded|go_step|go_upon))
 have hB28:=hBc.trans (hBd.mono hBc.size)
 have HFA:Hid (∀ Wq:World,Below w8 w8 Wq→∀ t,-4503599627370496≤t→t≤4503599627370496→Calls Tryz.prog 56 #[.pointer (some ⟨ga,0,none⟩),.int .i64 t] Wq fun e w'=>e=.returned (.int .i64 (Zn.a2u a t))∧Below Wq Wq w'):=zA (fun Wq hq t h1 h2=>a96 ((HCA.out.below hBd).below hq) HKA.out h1 h2)
 have HFB:Hid (∀ Wq:World,Below w8 w8 Wq→∀ t,-4503599627370496≤t→t≤4503599627370496→Calls Tryz.prog 56 #[.pointer (some ⟨gb,0,none⟩),.int .i64 t] Wq fun e w'=>e=.returned (.int .i64 (Zn.a2u b t))∧Below Wq Wq w'):=zA (fun Wq hq t h1 h2=>a96 (HCB.out.below hq) HKB.out h1 h2)
 have HT1:=zA (a1m.below HT1.out hB28)
 have HT2:=zA (a1m.below HT2.out hB28)
 clear hB3 ob3 os3 hBc hBd hB28 hck hg HCA HCB
 obtain ⟨xa1,xc1,hx1,_⟩:=HT1.out
 obtain ⟨xa2,xc2,hx2,_⟩:=HT2.out
 subst hx1
 subst hx2
 have r0:=a02 os8 0
 have r1:=a02 os8 1
 repeat' ((go_not_at_region 10);(first|go_skip|go_guarded|go_step|go_upon))
 clear r0 r1
 have A9:=(zC w8.heap.size w8).alloc (zD _) (.cells #[f,u] 3)
 have hown:(w8.alloc (.cells #[f,u] 3)).ownsRow w8.heap.size 3 1 (.slice (some ⟨w8.heap.size,0,none⟩) 2 2) (Zn.cutsK f u (la++lb) 0).length (a4m (Zn.cutsK f u (la++lb) 0)):=⟨rfl,.inr ⟨_,2,#[.int .i64 f,.int .i64 u],rfl,zD _,a05 _ _ _ rfl,zD _,by unfold maxLen;omega,rfl,rfl⟩⟩
 have HT1:=zA (a1m.below HT1.out A9)
 have HT2:=zA (a1m.below HT2.out A9)
 generalize hw9:(w8.alloc (.cells #[f,u] 3))=w9 at *
 have AA:=(zC w9.heap.size w9).alloc (zD _) (.cells #[.slice xa1 la.length xc1,.slice xa2 lb.length xc2] 32)
 have oc:obj (w9.alloc (.cells #[.slice xa1 la.length xc1,.slice xa2 lb.length xc2] 32)) w9.heap.size=some (.cells #[.slice xa1 la.length xc1,.slice xa2 lb.length xc2] 32 (0,0)):=a05 _ _ _ rfl
 have HCC:=zA (concat_calls (a1m.below HT1.out AA) (a1m.below HT2.out AA) hla8 hlb8 oc)
 have hB9:=A9.trans (AA.mono A9.size)
 have hown:=a0m hown AA
 clear HT1 HT2 hw9 A9
 generalize hl:la++lb=l at *
 have hll:l.length≤20000:=by rw [← hl,zX];omega
 have HLL:=zA hl
 clear hl
 repeat' ((go_not_at_region 11);(first | (go_at_call 80;((with_reducible refine ((HCC.out).mono ?_)));rintro e wA ⟨⟨v3,rfl,akq⟩,hB'⟩;have hBA:=hB9.trans (hB'.mono hB9.size);have howA:=a0m hown hB';obtain ⟨xa,xc,hx3⟩:=owns_sl akq;subst hx3;dsimp only)|go_skip|go_guarded|go_step|go_upon))
 generalize (w9.alloc (.cells #[.slice xa1 la.length xc1,.slice xa2 lb.length xc2] 32)).heap.size=base3 at *
 clear hB' hB9 hown oc AA HCC hB2
 go_loopw [16,74] (fun cv iv wr => ∃ k:Nat,k≤l.length∧iv=.int .i64 k∧wr.ownsRow w8.heap.size 3 1 cv (Zn.cutsK f u l k).length (a4m (Zn.cutsK f u l k))∧wr.ownsRow base3 57 2 (.slice xa l.length xc) l.length (a4g l)∧Below w8 w8 wr) (fun _ iv _=>((l.length:Int) - intOf iv).toNat)
 case atStart=>exact ⟨0,xG _,rfl,howA,akq,hBA⟩
 clear howA akq hBA
 obtain ⟨k,hk,rfl,how,akq,hB⟩:=hrel
 obtain ⟨va,vc,hlv⟩:=owns_sl how
 subst hlv
 have hcl:=Zn.cutsK_len f u l hk
 by_cases hlk:k < l.length
 ·have i1:(k:Int) < (l.length:Int):=by omega
  have HST:=zA (Zn.cutsK_succ f u l hlk)
  obtain ⟨C,hC⟩ : ∃ C,Zn.cutsK f u l k=C:=⟨_,rfl⟩
  rw [hC] at how hcl HST ⊢
  clear hC
  obtain ⟨xa',xc',e',hq⟩:=(a13 akq).2.1
  injection e' with e1 e2 e3
  subst e1
  obtain ⟨b9,o9,row,T,fr,rfl,q1,q2⟩:=hq (by omega)
  obtain ⟨z0,k2⟩:=q2 k hlk
  have z1:(o9+k * 2+2≤row.size)=True:=xN z0
  obtain ⟨x,hx⟩ : ∃ x,l.getD k default=x:=⟨_,rfl⟩
  rw [hx] at HST
  have k3:row.extract (o9+k * 2) (o9+k * 2+2)=#[.int .i64 x.tm,.int .i64 x.off]:=by have:=k2;dsimp only at this;rw [hx] at this;exact this
  have hon:ones #[x.tm,x.off]=true:=by simp [ones,a0n]
  obtain ⟨j,hj⟩ : ∃ j,j=k+1:=⟨_,rfl⟩
  have wj:IntKind.wrap .i64 ((k:Int)+1)=(j:Int):=by rw [wrap_in]<;>omega
  have hkj:(k:Int) < (j:Int):=by omega
  have hjb:j≤l.length:=by omega
  rw [← hj] at HST
  clear k2 z0 hx q2 hj e2 e3 hq
  have A5:=(zC wr.heap.size wr).alloc (zD _) (.cells #[x.tm,x.off] 57)
  have dp:obj (wr.alloc (.cells #[x.tm,x.off] 57)) wr.heap.size=some (.cells #[x.tm,x.off] 57 (0,0)):=a05 _ _ _ rfl
  repeat' ((go_not_at_region 13);(first|go_skip|go_guarded|go_step|go_upon))
  have how:=a0m how A5
  have akq:=a0m akq A5
  have hB:=hB.trans (A5.mono hB.size)
  clear A5 q1
  generalize (wr.alloc (.cells #[x.tm,x.off] 57))=wz at *
  generalize wr.heap.size=pb at *
  have c0:=a02 dp 0
  have A6:=(zC wz.heap.size wz).alloc (zD _) (.cells #[x.tm] 3)
  have ow7:=a0m how A6
  have ow3:=a0m akq A6
  have n6:obj (wz.alloc (.cells #[x.tm] 3)) wz.heap.size=some (.cells #[x.tm] 3 (0,0)):=a05 _ _ _ rfl
  have nB:=hB.trans (A6.mono hB.size)
  have nsz:=nB.size
  repeat' (first | (at_builtin;(refine a4p rfl _ _ rfl w8.heap.size C.length (.slice va C.length vc) (a4m C) rfl ow7 wz.heap.size (.int .i64 x.tm) rfl n6 rfl (by omega) nsz ?_);intro v5 W5 a3p hg5;have hg:(wz.alloc (.cells #[x.tm] 3)).grownBy W5 (Value.slice va C.length vc).ownBlock:=hg5;clear hg5;have ow35:=aif ow3 ow7 (by decide) hg;have hB5:=nB.grown hg nsz (fun g q=>a1p ow7 q);dsimp only)|go_skip|go_guarded|go_step|go_upon)
  exact ⟨⟨j,by omega,rfl,by rw [HST.out,zX,valI_snoc];exact a3p,ow35,hB5⟩,by simp [intOf]<;>omega⟩
 have i1 : ¬ (k:Int) < (l.length:Int):=by omega
 obtain rfl:k=l.length:=by omega
 have HSO:=zA (a5t how (by omega))
 have hSl:=(Zn.a4n (Zn.cutsK f u l l.length)).length_eq
 have HSR:=zA (fun (t:Int) (h:t∈Zn.a2z (Zn.cutsK f u l l.length))=>Zn.cutsK_in hfu HIN.out h)
 generalize hS:Zn.a2z (Zn.cutsK f u l l.length)=S at *
 have HS:=zA hS
 obtain ⟨M,hM⟩ : ∃ M,M=l.length+1:=⟨_,rfl⟩
 have hCM:(Zn.cutsK f u l l.length).length=M+1:=by omega
 have HM:=zA hM
 have hM2:M≤20001:=by omega
 rw [hCM] at how HSO hSl ⊢
 clear hcl hCM hS hM how
 repeat' ((go_not_at_region 16);(first | (go_at_call 81;((with_reducible refine ((HSO.out).mono ?_)));rintro e w10 ⟨rfl,⟨⟨sa,cc,hsv,hsq⟩,sa',sc',aeb,hcap⟩,hX⟩;have an3:=hB.trans (hX.below hB.size (fun k hk h=>by have h:w8.heap.size≤k:=h;omega));dsimp only)|go_skip|go_guarded|go_step|go_upon))
 injection hsv with e1 e2 e3
 injection aeb with e4 e5 e6
 subst e1 e3 e4 e6
 obtain ⟨sb,so,row,T,fr,rfl,q1,q2⟩:=hsq (by omega)
 rw [hSl] at hcap q2
 have hcc:1≤M+1:=by omega
 have HQ2:=zA q2
 clear hX hB e2 e5 hsq q2 HSO akq
 repeat' ((go_not_at_region 18);(first|go_skip|go_guarded|go_step|go_upon))
 go_loopw [19,89] (fun ov iv wr => ∃ k:Nat,k≤M∧iv=.int .i64 k∧wr.ownsRow w10.heap.size 77 2 ov (Zn.pieceK a b S k).length (a4g (Zn.pieceK a b S k))∧Below w10 w10 wr) (fun _ iv _=>((M:Int) - intOf iv).toNat)
 case atStart=>exact ⟨0,xG _,rfl,⟨rfl,.inl ⟨rfl,rfl⟩⟩,zC _ _⟩
 obtain ⟨k,hk,rfl,how,hB⟩:=hrel
 obtain ⟨la9,lc9,hlv⟩:=owns_sl how
 subst hlv
 have hLl:=Zn.pieceK_len a b S k
 have HPS:Hid (Zn.pieceK a b S (k+1)=Zn.pieceK a b S k++(if Zn.a2u a (S.getD k 0)=Zn.a2u b (S.getD k 0) then [] else [⟨S.getD k 0,S.getD (k+1) 0⟩])):=zA rfl
 have HL:Hid (∀ s,s∈Zn.pieceK a b S k→s.tm∈S∧s.off∈S):=zA (fun s hs=>Zn.pieceK_mem (by omega) hs)
 by_cases hlk:k < M;rotate_left
 ·have i1 : ¬ (k:Int) < (M:Int):=by omega
  obtain rfl:k=M:=by omega
  have hrg:Zn.rngB (Zn.pieceK a b S k)=true:=Zn.rngB_iff.2 fun s hs=>by
   obtain ⟨h1,h2⟩:=HL.out s hs;have h3:=HSR.out _ h1;have h4:=HSR.out _ h2;unfold Zn.farB
   refine ⟨?_,?_⟩<;>simp<;>omega
  have HNO:=zA (Norm_calls (afr how).2.1 (by omega) hrg)
  have HRG:=zA hrg
  have hbl:=Zn.bdsOf_len (Zn.pieceK a b S k)
  clear hrg HPS HL how
  repeat' (first | (go_at_call 82;((with_reducible refine ((HNO.out).mono ?_)));rintro e w5 ⟨⟨v5,B,rfl,htv,hp,hs⟩,hB5⟩;have hB6:=hB8.trans ((an3.trans ((hB.trans (hB5.mono hB.size)).mono an3.size)).mono hB8.size);dsimp only)|go_skip|go_guarded|go_step|go_upon)
  go_returns
  have hNL:=Zn.norm_of hs hp
  exact ⟨⟨_,_,rfl,htv,by rw [HLL.out,HS.out,← HM.out];exact hNL,hNL.rng HRG.out,by have h1:=Zn.swL_len B B.length;have h2:=hp.length_eq;omega⟩,hB6⟩
 have i1:(k:Int) < (M:Int):=by omega
 have hmS:∀ i,i < S.length→S.getD i 0∈S:=fun i hi=>by rw [zB,zK hi];exact yT hi
 have hx0:=HSR.out _ (hmS k (by omega))
 have s0:=HQ2.out k (by omega)
 have s1:=HQ2.out (k+1) (by omega)
 rw [show so+(k+1)=so+1+k by omega] at s1
 have HFA9:=zA (fun Wq hq=>HFA.out Wq hq (S.getD k 0) (by omega) (by omega))
 have HFB9:=zA (fun Wq hq=>HFB.out Wq hq (S.getD k 0) (by omega) (by omega))
 clear hmS
 obtain ⟨L,hL⟩ : ∃ L,Zn.pieceK a b S k=L:=⟨_,rfl⟩
 rw [hL] at how hLl HPS HL ⊢
 clear hL
 generalize S.getD k 0=x0 at *
 generalize S.getD (k+1) 0=x1 at *
 generalize hoa:Zn.a2u a x0=oa9 at *
 generalize hob:Zn.a2u b x0=ob9 at *
 clear hoa hob
 obtain ⟨j,hj⟩ : ∃ j,j=k+1:=⟨_,rfl⟩
 have wj:IntKind.wrap .i64 ((k:Int)+1)=(j:Int):=by rw [wrap_in]<;>omega
 have hkj:(k:Int) < (j:Int):=by omega
 have hjb:j≤M:=by omega
 rw [← hj] at HPS
 clear hj
 have kw:=a04 q1 hB (a09 q1)
 have lw:=a09 kw
 have c1:=(a02 kw (so+1+k)).trans s1
 repeat' ((go_not_at_region 20);(first|go_skip|go_guarded|go_step|go_upon))
 clear c1
 by_cases heq:oa9=ob9
 ·have HST:Hid (Zn.pieceK a b S j=L):=zA (by rw [HPS.out,zQ heq,uA])
  refine a0k 13 [([],fun v _=>v=.pointer (some ⟨ga,0,none⟩)),([],fun v _=>v=.slice (some ⟨sb,so,none⟩) (M+1) vc),([],fun v _=>v=.int .i64 (k:Nat)),([1,2],fun v _=>v=.pointer (some ⟨sb,so+k,none⟩)),([3],fun v _=>v=.int .i64 x0),([0,4],fun v _=>v=.int .i64 oa9),([],fun v _=>v=.pointer (some ⟨gb,0,none⟩)),([],fun v _=>v=.slice (some ⟨sb,so,none⟩) (M+1) vc),([],fun v _=>v=.int .i64 (k:Nat)),([7,8],fun v _=>v=.pointer (some ⟨sb,so+k,none⟩)),([9],fun v _=>v=.int .i64 x0),([6,10,5],fun v _=>v=.int .i64 ob9),
    ([5,11],fun v _=>v=.bool false)] (by kernel_rfl) (by kernel_rfl) (by kernel_rfl) ?st ?ob ?_
  case st => intro k v W1 W2 h hb;rcases k with _|_|_|_|_|_|_|_|_|_|_|_|_|k<;>first | exact h | trivial
  case ob => and_intros<;>first|exact ⟨⟩|(intro vs Wq hW hk;(have q0:=(a02 (a04 kw hW lw) (so+k)).trans s0);(try simp only [knows,Spec.at',↓zH,↓zG,yL] at hk);simp only [Spec.at',↓zH,↓zG,a00,a03,yy0,yy1,yy2,yy3];(try simp only [hk]);first | ((repeat'(first|go_skip|go_guarded|go_step|go_upon));exact a01 _ rfl (by go_simp) bR rfl) | ((have HX:=zA (HFA9.out Wq (an3.trans ((hB.trans (hW.mono hB.size)).mono an3.size))));(repeat' (first | (go_at_call 56;((with_reducible refine (HX.out).mono ?_));rintro e w9 ⟨rfl,hb9⟩;dsimp only)|go_skip|go_guarded|go_step|go_upon));exact a01 _ rfl (by go_simp) hb9 rfl) | ((have HX:=zA (HFB9.out Wq (an3.trans ((hB.trans (hW.mono hB.size)).mono an3.size))));(repeat' (first | (go_at_call 56;((with_reducible refine (HX.out).mono ?_));rintro e w9 ⟨rfl,hb9⟩;dsimp only)|go_skip|go_guarded|go_step|go_upon));exact a01 _ rfl (by go_simp) hb9 rfl) | fail)
  intro vs W2 hW2 hk2;have v12:vs 12=.bool false:=hk2 12 (by decide);clear hk2;dsimp only [a1d,List.take,List.drop];simp only [Act.put,zF,zI,zJ];rw [v12];generalize vs 0=e0,vs 1=e1,vs 2=e2,vs 3=e3,vs 4=e4,vs 5=e5,vs 6=e6,vs 7=e7,vs 8=e8,vs 9=e9,vs 10=e10,vs 11=e11;clear v12;have how:=a0m how hW2;have kw:=a04 kw hW2 lw;have hB:=hB.trans (hW2.mono hB.size);have lw:=a09 kw;clear hW2;(repeat'(first|go_skip|go_guarded|go_step|go_upon));exact ⟨⟨j,by omega,rfl,by rw [HST.out];exact how,hB⟩,by simp [intOf]<;>omega⟩
 have HST:Hid (Zn.pieceK a b S j=L ++ [⟨x0,x1⟩]):=zA (by rw [HPS.out,zS heq])
 refine a0k 13 [([],fun v _=>v=.pointer (some ⟨ga,0,none⟩)),([],fun v _=>v=.slice (some ⟨sb,so,none⟩) (M+1) vc),([],fun v _=>v=.int .i64 (k:Nat)),([1,2],fun v _=>v=.pointer (some ⟨sb,so+k,none⟩)),([3],fun v _=>v=.int .i64 x0),([0,4],fun v _=>v=.int .i64 oa9),([],fun v _=>v=.pointer (some ⟨gb,0,none⟩)),([],fun v _=>v=.slice (some ⟨sb,so,none⟩) (M+1) vc),([],fun v _=>v=.int .i64 (k:Nat)),([7,8],fun v _=>v=.pointer (some ⟨sb,so+k,none⟩)),([9],fun v _=>v=.int .i64 x0),([6,10,5],fun v _=>v=.int .i64 ob9),
   ([5,11],fun v _=>v=.bool true)] (by kernel_rfl) (by kernel_rfl) (by kernel_rfl) ?st ?ob ?_
 case st => intro k v W1 W2 h hb;rcases k with _|_|_|_|_|_|_|_|_|_|_|_|_|k<;>first | exact h | trivial
 case ob => and_intros<;>first|exact ⟨⟩|(intro vs Wq hW hk;(have q0:=(a02 (a04 kw hW lw) (so+k)).trans s0);(try simp only [knows,Spec.at',↓zH,↓zG,yL] at hk);simp only [Spec.at',↓zH,↓zG,a00,a03,yy0,yy1,yy2,yy3];(try simp only [hk]);first | ((repeat'(first|go_skip|go_guarded|go_step|go_upon));exact a01 _ rfl (by go_simp) bR rfl) | ((have HX:=zA (HFA9.out Wq (an3.trans ((hB.trans (hW.mono hB.size)).mono an3.size))));(repeat' (first | (go_at_call 56;((with_reducible refine (HX.out).mono ?_));rintro e w9 ⟨rfl,hb9⟩;dsimp only)|go_skip|go_guarded|go_step|go_upon));exact a01 _ rfl (by go_simp) hb9 rfl) | ((have HX:=zA (HFB9.out Wq (an3.trans ((hB.trans (hW.mono hB.size)).mono an3.size))));(repeat' (first | (go_at_call 56;((with_reducible refine (HX.out).mono ?_));rintro e w9 ⟨rfl,hb9⟩;dsimp only)|go_skip|go_guarded|go_step|go_upon));exact a01 _ rfl (by go_simp) hb9 rfl) | fail)
 intro vs W2 hW2 hk2
 have v12:vs 12=.bool true:=hk2 12 (by decide)
 clear hk2
 dsimp only [a1d,List.take,List.drop]
 simp only [Act.put,zF,zI,zJ]
 rw [v12]
 generalize vs 0=e0,vs 1=e1,vs 2=e2,vs 3=e3,vs 4=e4,vs 5=e5,vs 6=e6,vs 7=e7,vs 8=e8,vs 9=e9,vs 10=e10,vs 11=e11
 clear v12
 have how:=a0m how hW2
 have kw:=a04 kw hW2 lw
 have hB:=hB.trans (hW2.mono hB.size)
 have lw:=a09 kw
 clear hW2
 have c0:=(a02 kw (so+k)).trans s0
 have hon:ones #[x0,x1]=true:=by simp [ones,a0n]
 have A6:=(zC W2.heap.size W2).alloc (zD _) (.cells #[x0,x1] 77)
 have ow7:=a0m how A6
 have n6:obj (W2.alloc (.cells #[x0,x1] 77)) W2.heap.size=some (.cells #[x0,x1] 77 (0,0)):=a05 _ _ _ rfl
 have nB:=hB.trans (A6.mono hB.size)
 have nsz:=nB.size
 repeat' (first | (at_builtin;(refine wpList_append_sp rfl _ _ rfl w10.heap.size L.length (.slice la9 L.length lc9) L rfl ow7 W2.heap.size ⟨x0,x1⟩ rfl n6 (by omega) nsz ?_);intro v5 W5 a3p hg5 _;have hg:(W2.alloc (.cells #[x0,x1] 77)).grownBy W5 (Value.slice la9 L.length lc9).ownBlock:=hg5;clear hg5;have hB5:=nB.grown hg nsz (fun g q=>a1p ow7 q);dsimp only)|go_skip|go_guarded|go_step|go_upon)
 exact ⟨⟨j,by omega,rfl,by rw [HST.out,zX];exact a3p,hB5⟩,by simp [intOf]<;>omega⟩
end Go.Proofs.YtppjleebbjipbaaGreat
