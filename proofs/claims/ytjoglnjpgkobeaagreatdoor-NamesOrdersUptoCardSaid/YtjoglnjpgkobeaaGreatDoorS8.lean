/-
  slices.Backward AT EXPRESSIONS: what the iterator hands out, round by round.
-/
import Derived.RangeFuncNested
import Derived.RangeFuncBound
import Derived.RangeFuncCalls
import Derived.RangeFuncLeaves
import Derived.Shelf.Abstract
import Derived.WalkKit
import Derived.OwnWalkIn
import Derived.TacticsInMore
import Derived.LoopNIn
import Derived.LoopIn
import Derived.Test.YtjoglnjpgkobeaaGreatDoorProg
namespace Go.Proofs.YtjoglnjpgkobeaaGreatDoor
open Go Go.RowKit Go.Shelf
set_option linter.all false
set_option linter.unusedVariables false
set_option linter.unusedSimpArgs false
set_option linter.unusedVariables false
set_option linter.unusedSimpArgs false
attribute [local go_sem] Oper.semAt_some
/-- What a round keeps: what lay below n0, and the box of the slice. -/
def KpB (n0 bs : Nat) (W W' : World) : Prop := Below n0 W W' ∧ ∀ v, Boxed W bs 47 v → Boxed W' bs 47 v
theorem KpB.refl (n0 bs : Nat) (W : World) : KpB n0 bs W W := ⟨Below.refl _ _, fun v h => h⟩
end Go.Proofs.YtjoglnjpgkobeaaGreatDoor
