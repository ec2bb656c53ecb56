/-
  slices.Backward AT EXPRESSIONS: what the iterator hands out, round by round.
-/
import Derived.RangeFuncNested
import Derived.RangeFuncBound
import Derived.RangeFuncCalls
import Derived.RangeFuncLeaves
import Derived.Shelf.Abstract
import Derived.WalkKit
import Derived.OwnWalkIn
import Derived.TacticsInMore
import Derived.LoopNIn
import Derived.LoopIn
import Derived.Test.YtjoglnjpgkobeaaGreatDoorProg
namespace Go.Proofs.YtjoglnjpgkobeaaGreatDoor
open Go Go.RowKit Go.Shelf
set_option linter.all false
set_option linter.unusedVariables false
set_option linter.unusedSimpArgs false
set_option linter.unusedVariables false
set_option linter.unusedSimpArgs false
attribute [local go_sem] Oper.semAt_some

/-- Indexes from the last down to k. -/
def dn (len k : Nat) : List Nat := (List.range (len - k)).map fun t => len - 1 - t
theorem dn_start (len : Nat) : dn len len = [] := by simp [dn]
theorem dn_length {len k : Nat} : (dn len k).length = len - k := by simp [dn]
theorem dn_step {len m : Nat} (h : m < len) : dn len m = dn len (m + 1) ++ [m] := by
  unfold dn
  have h1 : len - m = (len - (m + 1)) + 1 := by omega
  rw [h1, List.range_succ, List.map_append]
  simp
  omega

/-- What a round keeps: what lay below n0, and the box of the slice. -/
def KpB (n0 bs : Nat) (W W' : World) : Prop := Below n0 W W' ∧ ∀ v, Boxed W bs 47 v → Boxed W' bs 47 v
theorem KpB.refl (n0 bs : Nat) (W : World) : KpB n0 bs W W := ⟨Below.refl _ _, fun v h => h⟩
theorem KpB_t {n0 bs : Nat} {A B C : World} (h : KpB n0 bs A B) (k : KpB n0 bs B C) : KpB n0 bs A C := ⟨h.1.trans k.1, fun v hv => k.2 v (h.2 v hv)⟩
theorem KpB_b {n0 bs : Nat} {w : World} (hn : n0 ≤ w.heap.size) (W : World) (l : Nat) (o o' : Obj) (hl : w.heap.size ≤ l) (h : W.heap[l]? = some o) (hc : o.isCells = false) (hw : o.isWalk = false) : KpB n0 bs W (W.putObj l o') :=
  ⟨belowK_b hn W l o o' hl h hc hw, fun v hv => hv.kept (grownBy_putObj' W l o') (fun e => by cases e; rw [show W.heap[bs]? = _ from hv] at h; cases h; cases hc)⟩

end Go.Proofs.YtjoglnjpgkobeaaGreatDoor
