/-
  THE CONTRACTS OF slices.EqualFunc, at each kind of list.
-/
import Derived.WalkSpells
import Derived.WalkLawsBesides
import Derived.Test.YtjoglnjpgkobeaaGreatDoorProg
import Derived.Test.YtjoglnjpgkobeaaGreatDoorWordPk
namespace Go.Proofs.YtjoglnjpgkobeaaGreatDoor
open Go Go.RowKit
set_option linter.all false
set_option linter.unusedVariables false
set_option linter.unusedSimpArgs false
set_option linter.unusedVariables false
set_option linter.unusedSimpArgs false
attribute [local go_sem] run_store_one

theorem text_ne {a b : ByteArray} (h : ¬ a = b) : (a.toList == b.toList) = false := by
  refine beq_eq_false_iff_ne.2 fun e => h ?_
  rw [ByteArray.toList_eq, ByteArray.toList_eq] at e
  cases a; cases b
  simp at e
  rw [e]
theorem same_take {α : Type} {l m : List α} {k : Nat} (hl : k < l.length) (hm : k < m.length) (h : l.take k = m.take k) : l.take (k + 1) = m.take (k + 1) ↔ l[k] = m[k] := by
  rw [← List.take_append_getElem hl, ← List.take_append_getElem hm, h]
  exact ⟨fun e => by have := List.append_cancel_left e; simpa using this, fun e => by rw [e]⟩
theorem same_at {α : Type} {l m : List α} {k : Nat} (hl : k < l.length) (hm : k < m.length) (h : l[k] ≠ m[k]) : same l m = false := by
  rw [same_false]
  rintro rfl
  exact h rfl
theorem same_len {α : Type} {l m : List α} (h : l.length ≠ m.length) : same l m = false := by
  rw [same_false]
  rintro rfl
  exact h rfl

end Go.Proofs.YtjoglnjpgkobeaaGreatDoor
