/-
  kalendsref13.Yearly.
-/
import Derived.Test.YtppjleebbjipbaaGreatQkZob
import Derived.Test.YtppjleebbjipbaaGreatQkZoh
import Derived.Test.YtppjleebbjipbaaGreatQkZnt
set_option linter.all false
namespace Go.Proofs.YtppjleebbjipbaaGreat
open Go.RowKit Go.Shelf
set_option maxRecDepth 20000
set_option maxHeartbeats 8000000
theorem YearlyD_calls {W:World} {z:Zn.a0w} {mv rv tv yv:Value} (hv:a1q W z mv rv tv yv) (hk:Zn.Zok z) :
  Calls Tryz.prog 67 #[.agg #[z.cal.a08,mv,z.cal.a0l,rv,z.start,tv,z.hor,yv]] W fun e w'=>(∃ v b,e=.returned (.tuple #[v,.bool b])∧a2b w' v (Zn.ysT z)∧(b=true↔Zn.a4e (Zn.ysT z) (Zn.a0s z))∧InD (fun k=>W.heap.size≤k) v (Zn.ysT z))∧Below W W w':=by
 have om:=hv.cal.mon.one
 have orr:=hv.cal.rul.one
 have ot:=a1m.one hv.tr
 have oy:=a1m.one hv.yr
 have hon:ones #[z.cal.a08,mv,z.cal.a0l,rv,z.start,tv,z.hor,yv]=true:=a1b om orr ot oy
 have aq5:ones #[z.cal.a08,mv,z.cal.a0l,rv]=true:=a6t om orr
 have o0:obj (W.alloc (.cells #[z.cal.a08,mv,z.cal.a0l,rv,z.start,tv,z.hor,yv] 35)) W.heap.size=some (.cells #[z.cal.a08,mv,z.cal.a0l,rv,z.start,tv,z.hor,yv] 35 (0,0)):=a05 _ _ _ rfl
 have w1B:Below W W (W.alloc (.cells #[z.cal.a08,mv,z.cal.a0l,rv,z.start,tv,z.hor,yv] 35)):=bR.alloc (zD _) _
 have HV:=zA hv
 have HK:=zA hk
 obtain ⟨ya,yc,rfl,hyq⟩:=id hv.yr
 have HYQ:=zA hyq
 clear hyq hv hk
 go_enter Tryz.func67,Tryz.ntmps67
 have hcy:=Zn.ag7 (z:=z) HK.out.cal
 have he0:0≤z.cal.a08∧z.cal.a08≤1048576:=by
  have h:=HK.out.cal
  simp only [Zn.Cal.ok,zN,zM] at h
  exact ⟨h.1.e0,h.1.e1⟩
 have hyl:=HK.out.yl
 by_cases hy0:z.a0b.length=0
 ·have t0:((z.a0b.length:Int) == 0)=true:=beq_iff_eq.2 (by omega)
  have HR:Hid (Zn.ysT z = []):=zA (by unfold Zn.ysT;rw [zQ hy0])
  have z7:=a02 (a06 o0 (.cells #[] 57)) 7
  have z7':=a02 o0 7
  have hB0:=w1B.alloc w1B.size (.cells #[] 57)
  clear hy0 hyl
  repeat'(first|go_skip|go_guarded|go_step|go_upon)
  go_returns
  refine ⟨⟨_,true,rfl,?_,?_,fun h=>by rw [HR.out] at h;cases h⟩,?_⟩
  ·rw [HR.out]
   exact ⟨_,_,rfl,fun h=>by simp at h⟩
  ·rw [HR.out]
   exact ⟨fun _ i hi=>by simp at hi,fun _=>rfl⟩
  first | exact hB0 | exact w1B
 have HY2:Hid (
         z.a0b.length=2):=zA (by omega)
 have t0:((z.a0b.length:Int) == 0)=false:=vG.2 (by omega)
 have z7':=a02 o0 7
 have HRC:=zA (fun (Wq:World) (hb:Below W W Wq)=>ab9 (HV.out.below hb) HK.out.cal)
 have hys:=(Zn.aiz HK.out.cal)
 obtain ⟨cyc,ahh⟩ : ∃ cyc,Zn.a0s z=cyc:=⟨_,rfl⟩
 have abt:=zA ahh
 rw [ahh] at hcy
 clear hys hyl hy0 ahh
 have V1B:=w1B.alloc w1B.size (.cells #[] 57)
 have kV:=a06 o0 (.cells #[] 57)
 have z7V:=a02 kV 7
 have aor:(((W.alloc (.cells #[z.cal.a08,mv,z.cal.a0l,rv,z.start,tv,z.hor,.slice ya z.a0b.length yc] 35)).alloc (.cells #[] 57))).ownsRow (W.heap.size+1) 57 2 (.slice (some ⟨W.heap.size+1,0,none⟩) 0 0) 0 (a4g []):=⟨rfl,.inr ⟨_,0,#[],rfl,zD _,a05 _ _ _ (by simp),zD _,by unfold maxLen;omega,rfl,rfl⟩⟩
 repeat' ((go_not_at_region 4);(first|go_skip|go_guarded|go_step|go_upon))
 have HRV:=zA (HRC.out _ V1B)
 generalize ((W.alloc (.cells #[z.cal.a08,mv,z.cal.a0l,rv,z.start,tv,z.hor,.slice ya z.a0b.length yc] 35)).alloc (.cells #[] 57))=V at *
 rw [abt.out] at HRV
 repeat' ((go_not_at_region 5);(first | (go_at_call 49;((with_reducible refine (HRV.out).mono ?_));rintro e w3 ⟨rfl,hb3⟩;have k3:=a0a kV hb3;have akq:=a0m aor hb3;have hB3:=V1B.trans (hb3.mono V1B.size);dsimp only)|go_skip|go_guarded|go_step|go_upon))
 have z03:=a02 k3 0
 clear kV aor V1B z7V o0 w1B HRC HRV hb3 z7'
 repeat'(first|go_skip|go_guarded|go_step|go_upon)
 go_loopw [4,6,7] (fun sv b y wr => ∃ k:Nat,b=.int .i64 (z.cal.a08+Zn.a0z z.cal k)∧y=.int .i64 ((k:Int)+1)∧(∀ j,j < k→Zn.a0z z.cal j < cyc)∧wr.ownsRow (W.heap.size+1) 57 2 sv (Zn.a4t (Zn.raw z k)).length (a4g (Zn.a4t (Zn.raw z k)))∧obj wr W.heap.size=some (.cells #[z.cal.a08,mv,z.cal.a0l,rv,z.start,tv,z.hor,.slice ya z.a0b.length yc] 35 (0,0))∧Below W W wr) (fun _ b _ _=>(z.cal.a08+cyc - intOf b).toNat)
 case atStart=>exact ⟨0,by simp [Zn.a0z],rfl,fun j hj=>absurd hj (yA j),akq,k3,hB3⟩
 clear akq k3 hB3 z03
 obtain ⟨k,rfl,rfl,hlow,how,kz,hB⟩:=hrel
 have al7:=zA hlow
 clear hlow
 have hyk:=Zn.a1v HK.out.cal k
 have hkb:k≤1836801:=by
  rcases zU k 1836802 with h | h
  ·omega
  ·have h3:=al7.out 1836801 (by omega)
   have h4:=(Zn.a1v HK.out.cal 1836801).1;omega
 have z0k:=a02 kz 0
 have wce:=zWI (z.cal.a08+cyc)
 by_cases hlt:Zn.a0z z.cal k < cyc;rotate_left
 ·have i1 : ¬ (z.cal.a08+Zn.a0z z.cal k) < z.cal.a08+cyc:=by omega
  have HKT:Hid (Zn.a4t (Zn.raw z k)=Zn.ysT z):=zA (by unfold Zn.ysT;rw [zS (by rw [HY2.out];omega),Zn.ami HK.out.cal (fun j hj=>by rw [abt.out];exact al7.out j hj) (by rw [abt.out];omega)])
  rw [HKT.out] at how
  have HIN:=zA (fun i hi=>(Zn.am4 HK.out (Zn.a2h (l:=Zn.ysT z) (i:=i) hi)).1)
  have hll6:=Zn.ala HK.out
  obtain ⟨LL,hLL⟩ : ∃ LL,LL=Zn.ysT z:=⟨_,rfl⟩
  have HLL:=zA hLL.symm
  rw [← hLL] at how HIN hll6
  have HTR:=zA (a13 how).2.1
  obtain ⟨sa,sc,hsv⟩:=(a13 how).2.2.2
  have HND:Hid (InD (fun k=>W.heap.size≤k) (.slice sa LL.length sc) (Zn.ysT z)):=zA (fun _ b o m c e=>by have h9:=a1p how (g:=b) (by rw [hsv,e];rfl);omega)
  subst hsv
  clear hLL how HKT
  have hB6:=hB
  generalize hw6:wr=w6 at *
  repeat'(first|go_skip|go_guarded|go_step|go_upon)
  go_loopw [11] (fun i wr => ∃ q:Nat,q≤LL.length∧i=.int .i64 q∧(∀ j,j < q→2160≤Zn.a6j LL cyc j)∧Below w6 w6 wr) (fun i _=>((LL.length:Int) - intOf i).toNat)
  case atStart=>exact ⟨0,by omega,rfl,fun j hj=>absurd hj (yA j),zC _ _⟩
  case round =>
   obtain ⟨q,hq,rfl,hgp,hC⟩:=hrel;have as8:=zA hgp;have hBw:=hB6.trans (hC.mono hB6.size);clear hgp;by_cases hql:q < LL.length
   ·have htw:=a1m.below HTR.out hC
    obtain ⟨tb,tof,tc,a5d,TT',tfr,htv,tq1,tq2⟩:=a2b.open htw (by omega)
    obtain ⟨rfl,rfl⟩:sa=some ⟨tb,tof,none⟩∧sc=tc:=by injection htv with a b c;exact ⟨a,c⟩
    (have e0r:a5d[tof]? = some (.int .i64 (LL.getD 0 default).tm):=by have:=a0y 0 (tq2 0 (by omega)).2 (by simp);simpa using this);have exr:=a0y 0 (tq2 q hql).2 (by simp);have HE1:=zA (fun h=>a0y 0 (tq2 (q+1) h).2 (by simp));have hb0:=HIN.out 0 (by omega);have hbq:=HIN.out q hql;have hnb:=zA (HIN.out (q+1))
    obtain ⟨gv,hgv⟩ : ∃ gv,Zn.a6j LL cyc q=gv:=⟨_,rfl⟩
    have HGV:=zA hgv;unfold Zn.a6j at hgv;have e00:=(a02 tq1 tof).trans e0r;clear htv htw tq2;have HQL:=zA hql;generalize (LL.getD 0 default).tm=y0 at *;generalize LL.getD q default=x at *;have exr:a5d[tof+q * 2]? = some (.int .i64 x.tm):=exr;have exx:=(a02 tq1 (tof+q * 2)).trans exr
    have wq1:IntKind.wrap .i64 ((q:Int)+1)=((q+1:Nat):Int):=by rw [wrap_in]<;>omega
    have wcm:=zWI (cyc * 1440);have wy0:=zWI (y0+cyc * 1440);(have i0:0 < LL.length:=by omega);by_cases hq1:q+1 < LL.length
    ·rw [zQ hq1] at hgv
     have hy1:=hnb.out hq1;have e1r:=HE1.out hq1;generalize (LL.getD (q+1) default).tm=y1 at *;have e1r:a5d[tof+(q+1) * 2]? = some (.int .i64 y1):=e1r;have e11:=(a02 tq1 (tof+(q+1) * 2)).trans e1r;have HGQ:=zA hgv;have wgv:=zWI (y1 - x.tm);clear hgv;by_cases hg:y1 - x.tm < 2160
     ·have HG:=zA hg
      have HNG:Hid (¬ Zn.a4e LL cyc):=zA fun h=>by have h1:=h q (by have:=HQL.out;omega);rw [HGV.out,← HGQ.out] at h1;have:=HG.out;omega
      repeat'(first|go_skip|go_guarded|go_step|go_upon)
      go_returns;exact ⟨⟨_,false,by rfl,by rw [HLL.out];exact a1m.below HTR.out hC,⟨fun h=>(by cases h),fun h=>absurd (by rw [HLL.out,abt.out] at h;exact h) HNG.out⟩,HND.out⟩,hBw⟩
     ·repeat'(first|go_skip|go_guarded|go_step|go_upon)
      exact ⟨⟨q+1,by have:=HQL.out;omega,by go_num,fun j hj=>(zU j q).elim (fun h=>as8.out j h) (fun h=>by rw [show j=q by omega,HGV.out,← HGQ.out];omega),hC⟩,by simp [intOf];omega⟩
    ·rw [zS hq1] at hgv
     have HGQ:=zA hgv;have wgv:=zWI (y0+cyc * 1440 - x.tm);clear hgv;by_cases hg:y0+cyc * 1440 - x.tm < 2160
     ·have HG:=zA hg
      have HNG:Hid (¬ Zn.a4e LL cyc):=zA fun h=>by have h1:=h q (by have:=HQL.out;omega);rw [HGV.out,← HGQ.out] at h1;have:=HG.out;omega
      repeat'(first|go_skip|go_guarded|go_step|go_upon)
      go_returns;exact ⟨⟨_,false,by rfl,by rw [HLL.out];exact a1m.below HTR.out hC,⟨fun h=>(by cases h),fun h=>absurd (by rw [HLL.out,abt.out] at h;exact h) HNG.out⟩,HND.out⟩,hBw⟩
     ·repeat'(first|go_skip|go_guarded|go_step|go_upon)
      exact ⟨⟨q+1,by have:=HQL.out;omega,by go_num,fun j hj=>(zU j q).elim (fun h=>as8.out j h) (fun h=>by rw [show j=q by omega,HGV.out,← HGQ.out];omega),hC⟩,by simp [intOf];omega⟩
   ·obtain rfl:q=LL.length:=by omega
    repeat'(first|go_skip|go_guarded|go_step|go_upon)
    go_returns;exact ⟨⟨_,true,by rfl,by rw [HLL.out];exact a1m.below HTR.out hC,⟨fun _=>by rw [HLL.out,abt.out];exact as8.out,fun _=>rfl⟩,HND.out⟩,hBw⟩
 have i1:(
      z.cal.a08+Zn.a0z z.cal k) < z.cal.a08+cyc:=by omega
 have HLT:=zA hlt
 obtain ⟨begin,hbe⟩ : ∃ b,b=(z.cal.a08+Zn.a0z z.cal k):=⟨_,rfl⟩
 have HBE:=zA hbe
 rw [← hbe] at i1 ⊢
 have hbb:0≤begin∧begin≤4000000:=by omega
 clear hbe hlt
 repeat' ((go_not_at_region 9);(first|go_skip|go_guarded|go_step|go_upon))
 repeat'(first|go_skip|go_guarded|go_step|go_upon)
 go_loopw [4,8] (fun sv i wr => ∃ j:Nat,j≤2∧i=.int .i64 j∧wr.ownsRow (W.heap.size+1) 57 2 sv (Zn.a4t (Zn.raw z k++Zn.a0u z k j)).length (a4g (Zn.a4t (Zn.raw z k++Zn.a0u z k j)))∧obj wr W.heap.size=some (.cells #[z.cal.a08,mv,z.cal.a0l,rv,z.start,tv,z.hor,.slice ya z.a0b.length yc] 35 (0,0))∧Below W W wr) (fun _ i _=>(2 - intOf i).toNat)
 case atStart=>exact ⟨0,by omega,rfl,by simpa [Zn.a0u] using how,kz,hB⟩
 clear how kz hB z0k
 obtain ⟨j,hj,rfl,how,kz,hB⟩:=hrel
 by_cases hj2:j < 2;rotate_left
 ·have i2 : ¬ (j:Int) < 2:=by omega
  obtain rfl:j=2:=by omega
  have HYL:=zA (a9z (HV.out.below hB).cal HK.out.cal ((k:Int)+1))
  have HQ:Hid (Zn.a0z z.cal (k+1)=Zn.a0z z.cal k+Zn.a4f z.cal ((k:Int)+1)):=zA rfl
  have hyl:=Zn.a5p HK.out.cal ((k:Int)+1)
  have HRW:Hid (Zn.raw z (k+1)=Zn.raw z k++Zn.a0u z k 2):=zA rfl
  generalize Zn.a4f z.cal ((k:Int)+1)=ylk at *
  have wye:=zWI (begin+ylk)
  have wk1:IntKind.wrap .i64 ((k:Int)+1+1)=((k+1:Nat):Int)+1:=by rw [wrap_in]<;>omega
  repeat' (first | (go_at_call 66;((with_reducible refine (HYL.out).mono ?_));rintro e w8 ⟨rfl,hb8⟩;have hB8:=hB.trans (hb8.mono hB.size);have kz8:=a0a kz hb8;have ahf:=a0m how hb8;dsimp only)|go_skip|go_guarded|go_step|go_upon)
  exact ⟨⟨k+1,by rw [HQ.out,HBE.out,Int.add_assoc],by simp,fun j hj=>(zU j k).elim (fun h=>al7.out j h) (fun h=>by rw [show j=k by omega];exact HLT.out),by rw [HRW.out];exact ahf,kz8,hB8⟩,by have h2:=HBE.out;simp only [intOf];omega⟩
 have i2:(j:Int) < 2:=by omega
 have i2':j < z.a0b.length:=by rw [HY2.out];omega
 obtain ⟨yb,yo,a8k,YT',yfr,rfl,q1,q2⟩:=HYQ.out (by rw [HY2.out];omega)
 obtain ⟨z0,k3a⟩:=q2 j (by rw [HY2.out];omega)
 have q3a:=(q2 (1 - j) (by rw [HY2.out];omega)).2
 have z1:(yo+j * 5+5≤a8k.size)=True:=xN z0
 have ky:=a04 q1 hB (a09 q1)
 have hro:=HK.out.yr j (by rw [HY2.out];omega)
 have hr1:=HK.out.yr (1 - j) (by rw [HY2.out];omega)
 have hyd:=Zn.abv HK.out.cal hro (b:=begin) (y:=(k:Int)+1)
 have HRA:Hid (Zn.a6f z k j=if (Zn.a8x z.cal begin ((k:Int)+1) (z.a0b.getD j default)).2=true then [⟨(Zn.a8x z.cal begin ((k:Int)+1) (z.a0b.getD j default)).1 * 1440+(z.a0b.getD j default).mn - (z.a0b.getD (1 - j) default).off,(z.a0b.getD j default).off⟩] else []):=zA (by rw [HBE.out];rfl)
 obtain ⟨r,hr⟩ : ∃ r,z.a0b.getD j default=r:=⟨_,rfl⟩
 obtain ⟨ro,aq3⟩ : ∃ r,z.a0b.getD (1 - j) default=r:=⟨_,rfl⟩
 rw [hr] at hro hyd
 rw [aq3] at hr1
 have HRA:=zA HRA.out
 have k3:a8k.extract (yo+j * 5) (yo+j * 5+5)=#[.int .i64 r.mon,.int .i64 r.wk,.int .i64 r.wd,.int .i64 r.mn,.int .i64 r.off]:=by rw [← hr];exact k3a
 have q3:a8k.extract (yo+(1 - j) * 5) (yo+(1 - j) * 5+5)=#[.int .i64 ro.mon,.int .i64 ro.wk,.int .i64 ro.wd,.int .i64 ro.mn,.int .i64 ro.off]:=by rw [← aq3];exact q3a
 replace HRA:Hid (Zn.a6f z k j=if (Zn.a8x z.cal begin ((k:Int)+1) r).2=true then [⟨(Zn.a8x z.cal begin ((k:Int)+1) r).1 * 1440+r.mn - ro.off,r.off⟩] else []):=zA (by have:=HRA.out;rw [hr,aq3] at this;exact this)
 clear k3a q3a hr aq3
 have er3:a8k[yo+j * 5+3]? = some (.int .i64 r.mn):=a0y 3 k3 (by simp)
 have er4:a8k[yo+j * 5+4]? = some (.int .i64 r.off):=a0y 4 k3 (by simp)
 have eo4:a8k[yo+(1 - j) * 5+4]? = some (.int .i64 ro.off):=a0y 4 q3 (by simp)
 have aq4:ones #[r.mon,r.wk,r.wd,r.mn,r.off]=true:=by simp [ones,a0n]
 obtain ⟨m,hm⟩ : ∃ m:Nat,r.mon=(m:Int)+1:=⟨(r.mon - 1).toNat,by have:=hro.m0;omega⟩
 have FND:=zA (fun (Wq:World) (hb:Below W W Wq)=>ahm (HV.out.below hb).cal HK.out.cal (b:=begin) (y:=(k:Int)+1) (by omega) (by omega) (r:=r) (m:=m) hm (by have:=hro.m1;omega) hro.k0 hro.k1 hro.d0 hro.d1)
 generalize hyy:Zn.a8x z.cal begin ((k:Int)+1) r=yd at *
 obtain ⟨dd,ok⟩:=yd
 dsimp only at hyd HRA FND
 have hlen:(Zn.a4t (Zn.raw z k++Zn.a0u z k j)).length≤10000000:=by
  rw [(Zn.a5i _).length_eq]
  have h1:=Zn.a7e z k
  have h2:=Zn.a4u z k j
  rw [zX]
  omega
 have hrb0:=hro.o0
 have hrb1:=hro.o1
 have hrn0:=hro.n0
 have hrn1:=hro.n1
 have hrp0:=hr1.o0
 have hrp1:=hr1.o1
 have osv:=a3x how
 have lz:=a09 kz
 have ly:=a09 ky
 clear q2 q3 z0 hyy hro hr1 hj hm q1
 repeat' ((go_not_at_region 12);(first|go_skip|go_guarded|go_step|go_upon))
 refine a0k 15 [([],fun v _=>v=.pointer (some ⟨W.heap.size,0,none⟩)),([0],fun v _=>v=.agg #[z.cal.a08,mv,z.cal.a0l,rv]),([],fun v _=>v=.int .i64 begin),([],fun v _=>v=.int .i64 ((k:Int)+1)),([],fun v _=>v=.pointer (some ⟨W.heap.size,7,none⟩)),([4],fun v _=>v=.slice (some ⟨yb,yo,none⟩) z.a0b.length yc),([],fun v _=>v=.int .i64 (j:Nat)),([5,6],fun v _=>v=.pointer (some ⟨yb,yo+j * 5,none⟩)),([7],fun v _=>v=.agg #[r.mon,r.wk,r.wd,r.mn,r.off]),([1,2,3,8],fun v _ => ∃ d:Int,v=.tuple #[.int .i64 d,.bool ok]∧(ok=true→d=dd)),([9],fun v _ => ∃ d:Int,v=.tuple #[.int .i64 d,.bool ok]∧(ok=true→d=dd)),([10],fun v _ => ∃ d:Int,v=.int .i64 d∧(ok=true→d=dd)),([10],fun v _=>v=.bool ok),([11],fun v _ => ∃ d:Int,v=.int .i64 d∧(ok=true→d=dd)),
   ([12],fun v _=>v=.bool ok)] (by kernel_rfl) (by kernel_rfl) (by kernel_rfl) ?st ?ob ?_
 case st => intro k v W1 W2 h hb;rcases k with _|_|_|_|_|_|_|_|_|_|_|_|_|_|_|k<;>first | exact h | trivial
 case ob =>
  and_intros<;>
  first
   | exact ⟨⟩
   | (intro vs Wq hW hk;(have q0:=a04 kz hW lz);(have q1:=a02 (a04 kz hW lz) 7);(have q2:=a04 ky hW ly);(try simp only [knows,Spec.at',↓zH,↓zG,yL] at hk);simp only [Spec.at',↓zH,↓zG,a00,a03,yy0,yy1,yy2,yy3];(try simp only [hk]);first | ((repeat'(first|go_skip|go_guarded|go_step|go_upon));exact a01 _ rfl (by go_simp) bR rfl) | fail)
   | (
    intro vs Wq hW hk;have g1:vs 1=.agg #[z.cal.a08,mv,z.cal.a0l,rv]:=hk.1;have g2:vs 2=.int .i64 begin:=hk.2.1;have g3:vs 3=.int .i64 ((k:Int)+1):=hk.2.2.1;have g8:vs 8=.agg #[r.mon,r.wk,r.wd,r.mn,r.off]:=hk.2.2.2.1;clear hk;change wpList _ _ _ _ (a00 _ vs [1,2,3,8] _) _;simp only [a00,a03,yy0,yy1,yy2,yy3];rw [g1,g2,g3,g8];have HX:=zA (FND.out Wq (hB.trans (hW.mono hB.size)))
    repeat' (first | (go_at_call 105;((with_reducible refine (HX.out).mono ?_));rintro e w9 ⟨⟨d,rfl,hd⟩,hb9⟩;dsimp only)|go_skip|go_guarded|go_step|go_upon)
    exact a01 (.tuple #[.int .i64 d,.bool ok]) rfl (by go_simp) hb9 ⟨d,rfl,hd⟩)
   | (
    intro vs Wq hW hk;have g9:(fun v _ => ∃ d:Int,v=.tuple #[.int .i64 d,.bool ok]∧(ok=true→d=dd)) (vs 9) Wq:=hk.1;obtain ⟨d9,e9,h9⟩:=g9;clear hk;change wpList _ _ _ _ (a00 _ vs [9] _) _;simp only [a00,a03,yy0,yy1,yy2,yy3];rw [e9]
    repeat'(first|go_skip|go_guarded|go_step|go_upon)
    exact a01 (.tuple #[.int .i64 d9,.bool ok]) rfl (by go_simp) bR ⟨d9,rfl,h9⟩)
   | (
    intro vs Wq hW hk;have g10:(fun v _ => ∃ d:Int,v=.tuple #[.int .i64 d,.bool ok]∧(ok=true→d=dd)) (vs 10) Wq:=hk.1;obtain ⟨d9,e9,h9⟩:=g10;clear hk;change wpList _ _ _ _ (a00 _ vs [10] _) _;simp only [a00,a03,yy0,yy1,yy2,yy3];rw [e9]
    repeat'(first|go_skip|go_guarded|go_step|go_upon)
    exact a01 (.int .i64 d9) rfl (by go_simp) bR ⟨d9,rfl,h9⟩)
   | (
    intro vs Wq hW hk;have g10:(fun v _ => ∃ d:Int,v=.tuple #[.int .i64 d,.bool ok]∧(ok=true→d=dd)) (vs 10) Wq:=hk.1;obtain ⟨d9,e9,h9⟩:=g10;clear hk;change wpList _ _ _ _ (a00 _ vs [10] _) _;simp only [a00,a03,yy0,yy1,yy2,yy3];rw [e9]
    repeat'(first|go_skip|go_guarded|go_step|go_upon)
    exact a01 (.bool ok) rfl (by go_simp) bR rfl)
   | (
    intro vs Wq hW hk;have g11:(fun v _ => ∃ d:Int,v=.int .i64 d∧(ok=true→d=dd)) (vs 11) Wq:=hk.1;obtain ⟨d9,e9,h9⟩:=g11;clear hk;change wpList _ _ _ _ (a00 _ vs [11] _) _;simp only [a00,a03,yy0,yy1,yy2,yy3];rw [e9]
    repeat'(first|go_skip|go_guarded|go_step|go_upon)
    exact a01 (.int .i64 d9) rfl (by go_simp) bR ⟨d9,rfl,h9⟩)
   | (
    intro vs Wq hW hk;have g12:(fun v _=>v=.bool ok) (vs 12) Wq:=hk.1;have e9:_=Value.bool ok:=g12;clear hk;change wpList _ _ _ _ (a00 _ vs [12] _) _;simp only [a00,a03,yy0,yy1,yy2,yy3];rw [e9]
    repeat'(first|go_skip|go_guarded|go_step|go_upon)
    exact a01 (.bool ok) rfl (by go_simp) bR rfl)
 intro vs W2 hW2 hk2
 have g13:(fun v _ => ∃ d:Int,v=.int .i64 d∧(ok=true→d=dd)) (vs 13) W2:=hk2 13 (by decide)
 have v14:vs 14=.bool ok:=hk2 14 (by decide)
 clear hk2
 dsimp only [a1d,List.take,List.drop]
 simp only [Act.put,zF,zI,zJ]
 obtain ⟨d9,v13,h9⟩:=g13
 rw [v13,v14]
 generalize vs 0=p0,vs 1=p1,vs 2=p2,vs 3=p3,vs 4=p4,vs 5=p5,vs 6=p6,vs 7=p7,vs 8=p8,vs 9=p9,vs 10=p10,vs 11=p11,vs 12=p12
 clear v13 v14
 have how:=a0m how hW2
 have kz:=a04 kz hW2 lz
 have ky:=a04 ky hW2 ly
 have hB:=hB.trans (hW2.mono hB.size)
 have lz:=a09 kz
 have ly:=a09 ky
 clear hW2 FND
 cases ok
 ·have HP1:Hid (Zn.a4t (Zn.raw z k++Zn.a0u z k (j+1))=Zn.a4t (Zn.raw z k++Zn.a0u z k j)):=zA (by show Zn.a4t (Zn.raw z k++(Zn.a0u z k j++Zn.a6f z k j))=_;rw [HRA.out];simp)
  repeat'(first|go_skip|go_guarded|go_step|go_upon)
  exact ⟨⟨j+1,by omega,by go_num,by rw [HP1.out];exact how,kz,hB⟩,by simp [intOf];omega⟩
 obtain rfl:d9=dd:=h9 rfl
 have HP1:Hid (Zn.a4t (Zn.raw z k++Zn.a0u z k (j+1))=Zn.acd (⟨d9 * 1440+r.mn - ro.off,r.off⟩:Zn.Tr) (Zn.a4t (Zn.raw z k++Zn.a0u z k j))):=zA (by rw [← Zn.agp];show Zn.a4t (Zn.raw z k++(Zn.a0u z k j++Zn.a6f z k j))=_;rw [HRA.out];simp)
 have HPL:=zA (show (Zn.acd (⟨d9 * 1440+r.mn - ro.off,r.off⟩:Zn.Tr) (Zn.a4t (Zn.raw z k++Zn.a0u z k j))).length=(Zn.a4t (Zn.raw z k++Zn.a0u z k j)).length+1 by rw [(Zn.a8c _ _).length_eq];rfl)
 have w1:=zWI (d9 * 1440)
 have w2:=zWI (d9 * 1440+r.mn)
 have w3':IntKind.wrap .i64 (d9 * 1440+r.mn - ro.off)=(d9 * 1440+r.mn - ro.off):=by rw [wrap_in]<;>omega
 have w4':IntKind.wrap .i64 (1 - (j:Int))=((1 - j:Nat):Int):=by rw [wrap_in]<;>omega
 have i3:1 - j < z.a0b.length:=by rw [HY2.out];omega
 have i4 : ¬ ((1 - j:Nat):Int) < 0:=by omega
 have HPW:=zA (Zn.ac1 (Zn.raw z k++Zn.a0u z k j))
 generalize Zn.a4t (Zn.raw z k++Zn.a0u z k j)=LL at *
 repeat' ((go_not_at_region 14);(first|go_skip|go_guarded|go_step|go_upon))
 refine a0k 25 [([],fun v _=>v=u4),([],fun v _=>v=.int .i64 d9),([1],fun v _=>v=.int .i64 (d9 * 1440)),([],fun v _=>v=.pointer (some ⟨W.heap.size,7,none⟩)),([3],fun v _=>v=.slice (some ⟨yb,yo,none⟩) z.a0b.length yc),([],fun v _=>v=.int .i64 (j:Nat)),([4,5],fun v _=>v=.pointer (some ⟨yb,yo+j * 5,none⟩)),([6],fun v _=>v=.pointer (some ⟨yb,yo+j * 5+3,none⟩)),([7],fun v _=>v=.int .i64 r.mn),([2,8],fun v _=>v=.int .i64 (d9 * 1440+r.mn)),([],fun v _=>v=.pointer (some ⟨W.heap.size,7,none⟩)),([10],fun v _=>v=.slice (some ⟨yb,yo,none⟩) z.a0b.length yc),([],fun v _=>v=.int .i64 (j:Nat)),([12],fun v _=>v=.int .i64 ((1 - j:Nat):Int)),([11,13],fun v _=>v=.pointer (some ⟨yb,yo+(1 - j) * 5,none⟩)),([14],fun v _=>v=.pointer (some ⟨yb,yo+(1 - j) * 5+4,none⟩)),([15],fun v _=>v=.int .i64 ro.off),([9,16],fun v _=>v=.int .i64 (d9 * 1440+r.mn - ro.off)),([],fun v _=>v=.pointer (some ⟨W.heap.size,7,none⟩)),([18],fun v _=>v=.slice (some ⟨yb,yo,none⟩) z.a0b.length yc),([],fun v _=>v=.int .i64 (j:Nat)),([19,20],fun v _=>v=.pointer (some ⟨yb,yo+j * 5,none⟩)),([21],fun v _=>v=.pointer (some ⟨yb,yo+j * 5+4,none⟩)),([22],fun v _=>v=.int .i64 r.off),
   ([17,23],fun v _=>v=.agg #[(d9 * 1440+r.mn - ro.off:Int),r.off])] (by kernel_rfl) (by kernel_rfl) (by kernel_rfl) ?st ?ob ?_
 case st => intro k v W1 W2 h hb;rcases k with _|_|_|_|_|_|_|_|_|_|_|_|_|_|_|_|_|_|_|_|_|_|_|_|_|k<;>first | exact h | trivial
 case ob => and_intros<;>first|exact ⟨⟩|(intro vs Wq hW hk;(have q0:=a02 (a04 kz hW lz) 7);(have q1:=(a02 (a04 ky hW ly) (yo+j * 5+3)).trans er3);(have q2:=(a02 (a04 ky hW ly) (yo+(1 - j) * 5+4)).trans eo4);(have q3:=(a02 (a04 ky hW ly) (yo+j * 5+4)).trans er4);(try simp only [knows,Spec.at',↓zH,↓zG,yL] at hk);simp only [Spec.at',↓zH,↓zG,a00,a03,yy0,yy1,yy2,yy3];(try simp only [hk]);first | ((repeat'(first|go_skip|go_guarded|go_step|go_upon));exact a01 _ rfl (by go_simp) bR rfl))
 intro vs W2 hW2 hk2;have v0:vs 0=u4:=hk2 0 (by decide);have v24:vs 24=.agg #[(d9 * 1440+r.mn - ro.off:Int),r.off]:=hk2 24 (by decide);clear hk2;dsimp only [a1d,List.take,List.drop];simp only [Act.put,zF,zI,zJ];rw [v0,v24];generalize vs 1=s1,vs 2=s2,vs 3=s3,vs 4=s4,vs 5=s5,vs 6=s6,vs 7=s7,vs 8=s8,vs 9=s9,vs 10=s10,vs 11=s11,vs 12=s12,vs 13=s13,vs 14=s14,vs 15=s15,vs 16=s16,vs 17=s17,vs 18=s18,vs 19=s19,vs 20=s20,vs 21=s21,vs 22=s22,vs 23=s23;clear v0 v24;have ahg:=a0m how hW2;have kz2:=a04 kz hW2 lz;have hB2:=hB.trans (hW2.mono hB.size);have lz2:=a09 kz2;have HIN:=zA (adr (t:=(⟨d9 * 1440+r.mn - ro.off,r.off⟩:Zn.Tr)) ahg HPW.out hlen (by omega));(repeat' (first | (go_at_call 83;((with_reducible refine (HIN.out).mono ?_));rintro e w5 ⟨v5,rfl,a3p,hX5⟩;have kz5:=hX5.obj kz2 lz2 (by omega);have hB5:=hB2.trans (hX5.below (by omega) (fun q hq=>by omega));dsimp only)|go_skip|go_guarded|go_step|go_upon));exact ⟨⟨j+1,by omega,by go_num,by rw [HP1.out,HPL.out];exact a3p,kz5,hB5⟩,by simp [intOf];omega⟩
theorem ae5 {W:World} {z:Zn.a0w} {mv rv tv yv:Value} (hv:a1q W z mv rv tv yv) (hk:Zn.Zok z) :
  Calls Tryz.prog 67 #[.agg #[z.cal.a08,mv,z.cal.a0l,rv,z.start,tv,z.hor,yv]] W fun e w'=>(∃ v b,e=.returned (.tuple #[v,.bool b])∧a2b w' v (Zn.ysT z)∧(b=true↔Zn.a4e (Zn.ysT z) (Zn.a0s z)))∧Below W W w' :=
 (YearlyD_calls hv hk).mono fun _ _ ⟨⟨v,b,h1,h2,h3,_⟩,h4⟩=>⟨⟨v,b,h1,h2,h3⟩,h4⟩
end Go.Proofs.YtppjleebbjipbaaGreat
