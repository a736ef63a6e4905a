/-
  What the laws of the zones share: the contracts for a zone that is valid.
-/
import Derived.Test.YtppjleebbjipbaaGreatQkZch
set_option linter.all false
namespace Zn
structure ane (z:a0w):Prop where
 r:z.cal.rules.length < 9223372036854775808
 m:z.cal.a0g.length < 9223372036854775808
theorem akj (x:Raw):ane (made x):=by
 have h:(made x).cal=a0t x:=by unfold made;split<;>rfl
 constructor
 ·rw [h];unfold a0t;split<;>simp
 rw [h];unfold a0t;split<;>simp
theorem aod {z:a0w} (hg:Good z) {t:Int} (h : -2251799813685248≤t∧t≤2251799813685248):ac8 z t=(a2u z t,0):=by
 unfold ac8
 rw [zQ ⟨a0v.2 hg,h⟩]
theorem amh {z:a0w} (hg:Good z) {t:Int} (h : -2251799813684168≤t∧t≤2251799813684168):a6i z t=(([1,0,2]:List Int).getD (a2w z t).1.length 0,0):=by
 unfold a6i
 rw [zQ ⟨a0v.2 hg,h⟩]
theorem akn {z:a0w} (hg:Good z) {loc:Int} (h1 : -2251799813684168≤loc∧loc≤2251799813684168):a4x z loc 0 2=((a2w z loc).1,0):=by
 unfold a4x
 rw [zQ ⟨a0v.2 hg,h1,by omega,by omega,by omega,by omega⟩]
 unfold agw
 by_cases h:(a2w z loc).1 = []<;>simp [h]
end Zn
namespace Go.Proofs.YtppjleebbjipbaaGreat
open Go.RowKit Go.Shelf
theorem aoh {W:World} {x:Zn.Raw} {gv ov:Value} {z:Zn.a0w} (hz:z=Zn.made x) (hx:x.In) (hg:U8V W gv x.a6v) (ho:U8V W ov x.a5z) :
  Calls Tryz.prog 16 #[.agg #[.int .u8 (x.start:Nat),gv,ov,.int .u8 (x.behind:Nat),.int .u8 (x.y0:Nat),.int .u8 (x.y1:Nat),.int .u8 (x.y2:Nat),.int .u8 (x.y3:Nat),.int .u8 (x.y4:Nat),.int .u8 (x.y5:Nat),.int .u8 (x.y6:Nat),.int .u8 (x.y7:Nat),.int .u8 (x.cal:Nat),.bool x.rules]] W fun e w'=>(∃ mv rv tv yv,e=.returned (.agg #[z.cal.a08,mv,z.cal.a0l,rv,z.start,tv,z.hor,yv])∧a1q w' z mv rv tv yv)∧Below W W w':=by
 subst hz
 exact ahs hx hg ho
theorem aon (HO:OpenSpec) {W:World} {z:Zn.a0w} {mv rv tv yv:Value} (hv:a1q W z mv rv tv yv) (hg:Zn.Good z) (hl:Zn.ane z) {loc:Int} (h1 : -2251799813684168≤loc∧loc≤2251799813684168) :
  Calls Tryz.prog 24 #[.agg #[z.cal.a08,mv,z.cal.a0l,rv,z.start,tv,z.hor,yv],.int .i64 loc,.int .i64 0,.int .i64 2] W fun e w'=>(∃ v,e=.returned (.tuple #[v,.int .i64 0])∧a2c w' v (Zn.a2w z loc).1)∧Below W W w':=by
 have h9:=a5g HO hv hl.r hl.m loc 0 2
 rw [Zn.akn hg h1] at h9
 exact h9
theorem aqr (HO:OpenSpec) {W:World} {z:Zn.a0w} {mv rv tv yv:Value} (hv:a1q W z mv rv tv yv) (hg:Zn.Good z) (hl:Zn.ane z) {t:Int} (h1 : -2251799813685248≤t∧t≤2251799813685248) :
  Calls Tryz.prog 18 #[.agg #[z.cal.a08,mv,z.cal.a0l,rv,z.start,tv,z.hor,yv],.int .i64 t] W fun e w'=>e=.returned (.tuple #[.int .i64 (Zn.a2u z t),.int .i64 0])∧Below W W w':=by
 have h9:=a6n HO hv hl.r hl.m t
 rw [Zn.aod hg h1] at h9
 exact h9
theorem aq0 (HO:OpenSpec) {W:World} {z:Zn.a0w} {mv rv tv yv:Value} (hv:a1q W z mv rv tv yv) (hg:Zn.Good z) (hl:Zn.ane z) {t:Int} (h1 : -2251799813684168≤t∧t≤2251799813684168) :
  Calls Tryz.prog 22 #[.agg #[z.cal.a08,mv,z.cal.a0l,rv,z.start,tv,z.hor,yv],.int .i64 t] W fun e w'=>e=.returned (.tuple #[.int .i64 (([1,0,2]:List Int).getD (Zn.a2w z t).1.length 0),.int .i64 0])∧Below W W w':=by
 have h9:=abr HO hv hl.r hl.m t
 rw [Zn.amh hg h1] at h9
 exact h9
theorem ahd {W:World} {v:Value} {l:List Int} (h:a2c W v l) (h0:0 < l.length) : ∃ b o c,v=.slice (some ⟨b,o,none⟩) l.length c∧∀ i,i < l.length→W.cell? ⟨b,o+i,none⟩=some (.int .i64 (l.getD i 0)):=by
 obtain ⟨ao,c,rfl,h2⟩:=h.1
 obtain ⟨b,o,row,T,fr,rfl,g2,g3⟩:=h2 h0
 exact ⟨b,o,c,rfl,fun i hi=>by rw [a02 g2 (o+i),g3 i hi]⟩
end Go.Proofs.YtppjleebbjipbaaGreat
