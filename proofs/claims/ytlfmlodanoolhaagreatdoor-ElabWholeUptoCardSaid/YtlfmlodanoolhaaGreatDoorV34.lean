import Derived.Shelf.SlicesE.DeleteFunc
import Derived.Ground.SlgfProg
import Derived.Test.YtlfmlodanoolhaaGreatDoorV33
import Derived.Test.YtlfmlodanoolhaaGreatDoorV31
set_option linter.all false
set_option maxRecDepth 200000
set_option maxHeartbeats 0
namespace Go.Proofs.YtlfmlodanoolhaaGreatDoor
open Go Go.RowKit
def tU:ByteArray:=⟨#[117]⟩
theorem tZ:bn tU:=⟨zD,zD,zD,zD⟩
