import Derived.Shelf.SlicesE.DeleteFunc
import Derived.Test.YtlfmlodanoolhaaGreatDoorY34
import Derived.Test.YtlfmlodanoolhaaGreatDoorY32
set_option linter.all false
set_option maxRecDepth 200000
set_option maxHeartbeats 32000000
namespace Go.Proofs.YtlfmlodanoolhaaGreatDoor
open Go Go.RowKit
def tU:ByteArray:=⟨#[117]⟩
def tW:ByteArray:=⟨#[119]⟩
theorem su:bf tU:=⟨zD,zD,zD,zD⟩
theorem oj:bf tW:=⟨zD,zD,zD,zD⟩
end Go.Proofs.YtlfmlodanoolhaaGreatDoor
