import Derived.Shelf.SlicesE.DeleteFunc
import Derived.Test.YtlfmlodanoolhaaGreatDoorE34
import Derived.Test.YtlfmlodanoolhaaGreatDoorE32
set_option linter.all false
set_option maxRecDepth 200000
set_option maxHeartbeats 32000000
namespace Go.Proofs.YtlfmlodanoolhaaGreatDoor
open Go Go.RowKit
def tU:ByteArray:=⟨#[117]⟩
theorem k7b:z2y tU:=⟨by decide,by decide,by decide,by decide⟩
end Go.Proofs.YtlfmlodanoolhaaGreatDoor
