import Derived.RangeFuncNested
import Derived.RangeFuncBound
import Derived.RangeFuncCalls
import Derived.RangeFuncLeaves
import Derived.Shelf.Abstract
import Derived.OwnWalkIn
import Derived.TacticsInMore
import Derived.LoopNIn
import Derived.LoopIn
import Derived.RangeFuncBox
import Derived.Maps.AppendAt
import Derived.WalkSmall
import Derived.Test.YtlfmlodanoolhaaGreatDoorProg
import Derived.Test.YtlfmlodanoolhaaGreatDoorV1
set_option linter.all false
set_option maxRecDepth 200000
set_option maxHeartbeats 0
namespace Go.Proofs.YtlfmlodanoolhaaGreatDoor
open Go Go.RowKit Go.Shelf
attribute [local go_sem] Oper.semAt_some bc
theorem im{W:World}{base:Nat}{e:TypeId}{size k:Nat}{v:Value}{xs:List Value}(h:W.ownsRow base e size v k xs):v.ownBlock=none\/∃g a,v.ownBlock=some g/\W.heap[g]? =some (.cells a e (0,0)):=by
 rcases h.2 with⟨rfl,_⟩|⟨g,c,a,rfl,_,b,_⟩
 ·exact .inl rfl
 ·exact .inr ⟨g,a,rfl,b⟩
