/-
  Envelopes as rows; the walk of envelope.formed.
-/
import Derived.Test.YtopgdlblfieljaaGreatDoorPkLaw
import Derived.WalkKit
import Derived.WalkSpells
import Derived.WalkLawsBesides
import Derived.Handy
import Derived.Lib.Hide
import Derived.Laws.CopyOwn
import Derived.Deep.QuietTactic
import Derived.BigQuiet
import Derived.BigRegion
import Derived.StillTailTactics
import Derived.RegionTactic
import Derived.LoopTactic
import Derived.Test.YtopgdlblfieljaaGreatDoorProg
import Derived.Test.YtopgdlblfieljaaGreatDoorPkRefE
import Derived.OwnWalk
import Derived.Deep.AppendLies
import Derived.Deep.AppendSrc
set_option linter.unusedSectionVars false
set_option linter.constructorNameAsVariable false
set_option linter.unusedVariables false
set_option linter.unusedSimpArgs false
namespace Go.Proofs.YtopgdlblfieljaaGreatDoor
open Go.RowKit
structure Env where
 frm:Int
 dst:Int
 seq:Int
 body:Value
 abg:List UInt8
def Env.row (e:Env):Array Value:=#[.int .i64 e.frm,.int .i64 e.dst,.int .i64 e.seq,e.body]++a0i e.abg
@[go_sem] theorem aI9 (e:Env):e.row[0]? = some (.int .i64 e.frm):=by simp [Env.row,Array.getElem?_append]
@[go_sem] theorem aRj (e:Env):e.row[1]? = some (.int .i64 e.dst):=by simp [Env.row,Array.getElem?_append]
@[go_sem] theorem b5k (e:Env):e.row[2]? = some (.int .i64 e.seq):=by simp [Env.row,Array.getElem?_append]
@[go_sem] theorem av9 (e:Env):e.row[3]? = some e.body:=by simp [Env.row,Array.getElem?_append]
attribute [irreducible] Env.row
end Go.Proofs.YtopgdlblfieljaaGreatDoor
namespace Go.Proofs.YtopgdlblfieljaaGreatDoor
open Go.RowKit
def avc (e:Env):Nat→List UInt8
 | 0=>[]
 | 1=>le8 (u64 e.frm)
 | 2=>le8 (u64 e.frm)++le8 (u64 e.dst)
 | _=>le8 (u64 e.frm)++le8 (u64 e.dst)++le8 (u64 e.seq)
def hdr (e:Env):List UInt8:=avc e 3
attribute [irreducible] avc hdr
end Go.Proofs.YtopgdlblfieljaaGreatDoor
