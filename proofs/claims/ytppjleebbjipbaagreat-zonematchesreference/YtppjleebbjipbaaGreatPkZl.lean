/-
  What the laws of the zones share: the contracts for a zone that is valid.
-/
import Derived.Test.YtppjleebbjipbaaGreatPkZch
import Derived.Test.YtppjleebbjipbaaGreatPkZpg
import Derived.Test.YtppjleebbjipbaaGreatPkZor
set_option linter.unusedSectionVars false
set_option linter.constructorNameAsVariable false
set_option linter.unusedVariables false
set_option linter.unusedSimpArgs false
namespace Zn
structure ane (z:a0w):Prop where
 r:z.cal.rules.length < 9223372036854775808
 m:z.cal.a0g.length < 9223372036854775808
theorem akj (x:Raw):ane (made x):=by
 have h:(made x).cal=a0t x:=by unfold made;split<;>rfl
 constructor
 ·rw [h];unfold a0t;split<;>simp
 ·rw [h];unfold a0t;split<;>simp
end Zn
namespace Go.Proofs.YtppjleebbjipbaaGreat
open Go.RowKit Go.Shelf
theorem aoh {W:World} {x:Zn.Raw} {gv ov:Value} {z:Zn.a0w} (hz:z=Zn.made x) (hx:x.In) (hg:U8V W gv x.a6v) (ho:U8V W ov x.a5z) :
  Calls Tryz.prog 16 #[.agg #[.int .u8 (x.start:Nat),gv,ov,.int .u8 (x.behind:Nat),.int .u8 (x.y0:Nat),.int .u8 (x.y1:Nat),.int .u8 (x.y2:Nat),.int .u8 (x.y3:Nat),.int .u8 (x.y4:Nat),.int .u8 (x.y5:Nat),.int .u8 (x.y6:Nat),.int .u8 (x.y7:Nat),.int .u8 (x.cal:Nat),.bool x.rules]] W fun e w'=>(∃ mv rv tv yv,e=.returned (.agg #[.int .i64 z.cal.a08,mv,.int .i64 z.cal.a0l,rv,.int .i64 z.start,tv,.int .i64 z.hor,yv])∧a1q w' z mv rv tv yv)∧Below W.heap.size W w':=by
 subst hz
 exact ahs hx hg ho
end Go.Proofs.YtppjleebbjipbaaGreat
