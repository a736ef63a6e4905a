/-
  The law of kalendsref29.Keys: five digests that the kernel reckons once.
-/
import Derived.Test.YtopgdlblfieljaaGreatDoorPkLetB
import Derived.Test.YtopgdlblfieljaaGreatDoorPkShp
set_option linter.unusedSectionVars false
set_option linter.constructorNameAsVariable false
set_option linter.unusedVariables false
set_option linter.unusedSimpArgs false
namespace Go.CE
namespace V
open Go.Proofs Go.Proofs.YtopgdlblfieljaaGreatDoor Go.RowKit
set_option maxRecDepth 100000
def keysL:List Nat:=[46,205,138,107,125,40,69,84,102,89,173,76,244,67,83,60,249,33,177,157,200,31,168,57,52,232,56,33,180,223,220,183,202,108,101,136,250,1,23,27,32,7,64,52,77,53,78,133,72,183,71,0,97,251,50,163,79,79,238,228,112,236,40,31,206,67,238,68,3,147,132,84,151,124,209,16,54,62,7,113,81,108,24,126,71,175,212,72,89,38,17,61,138,159,15,107,72,152,109,133,248,192,160,96,30,247,196,74,252,147,157,208,168,176,237,123,195,9,199,227,115,203,15,233,78,48,199,170,175,110,122,143,105,151,52,131,67,217,224,231,24,246,151,229,236,95,191,121,185,245,64,219,129,30,111,131,208,150,239,115]
@[reducible] def S00:Sym:={ val:=fun _=>0,bin:=fun _ _ _ _ _=>none,cv:=fun _ _=>none }
section
variable [Sym]
end
section
variable [Sym] [a0n]
end
end V
end Go.CE
