import Derived.RangeFuncNested
import Derived.RangeFuncBound
import Derived.RangeFuncCalls
import Derived.RangeFuncLeaves
import Derived.Shelf.Abstract
import Derived.OwnWalkIn
import Derived.TacticsInMore
import Derived.LoopNIn
import Derived.LoopIn
import Derived.RangeFuncBox
import Derived.Maps.AppendAt
import Derived.WalkSmall
import Derived.Test.YtlfmlodanoolhaaGreatDoorProg
import Derived.Test.YtlfmlodanoolhaaGreatDoorY1
set_option linter.all false
set_option maxRecDepth 200000
set_option maxHeartbeats 32000000
namespace Go.Proofs.YtlfmlodanoolhaaGreatDoor
open Go Go.RowKit Go.Shelf
attribute [local go_sem] Oper.semAt_some bc
theorem hK{W:World}{b:Nat}{e:TypeId}{size k:Nat}{v:Value}{xs:List Value}(h:W.ownsRow b e size v k xs):v.ownBlock=none\/∃g a,v.ownBlock=some g/\W.heap[g]? =some (.cells a e (0,0)):=by
 rcases h.2 with⟨rfl,_⟩|⟨g,d,a,rfl,_,c,_⟩
 ·exact .inl rfl
 ·exact .inr ⟨g,a,rfl,c⟩
end Go.Proofs.YtlfmlodanoolhaaGreatDoor
