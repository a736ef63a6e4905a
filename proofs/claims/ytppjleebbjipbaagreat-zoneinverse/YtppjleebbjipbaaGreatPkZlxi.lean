/-
  A region that draws its order, whose operations read blocks that stay and call what only lays new blocks: one walk of the order of the text.
-/
import Derived.Test.YtppjleebbjipbaaGreatPkRow
import Derived.StillTail
import Derived.KernelRfl
namespace Go.Proofs.YtppjleebbjipbaaGreat
open Go Go.RowKit
section
variable {P:Program}
theorem wp_region_below {id:Nat} {Q:Exit→Act→World→Prop} {a:Act} {w:World} {l:List Oper} (hm:P.follows .mixedOrders=true) (hB:Region.lexB .any l.toArray=true)
  (h:wpQuiet P l.toArray (fun w'=>Below w.heap.size w w') (fun a'=>∀ w',Below w.heap.size w w'→Q .normal a' w') l a):(Code.region id l.toArray true).wp P Q a w :=
 wp_region_quiet (C:=fun w'=>Below w.heap.size w w') hm hB (Below.refl _ _).drew (by simpa using h)
theorem calls_below {f:FuncId} {args:Array Value} {w W:World} {v:Value} (hW:Below w.heap.size w W) (h:Calls P f args W fun e w'=>e=.returned v∧Below W.heap.size W w') :
  Calls P f args W fun e w''=>e=.returned v∧Below w.heap.size w w'':=h.mono fun _ _ ⟨he,hb⟩=>⟨he,hW.trans (hb.mono hW.size)⟩
end
end Go.Proofs.YtppjleebbjipbaaGreat
