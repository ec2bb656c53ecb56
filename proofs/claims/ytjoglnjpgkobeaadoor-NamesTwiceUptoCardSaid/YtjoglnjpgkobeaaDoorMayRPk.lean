/-
  THE CONTRACTS OF THE REFERENCE's CHECKING: kinds, numbers, values.
-/
import Derived.Test.YtjoglnjpgkobeaaDoorWordPk
import Derived.Test.YtjoglnjpgkobeaaDoorNamePk
namespace Go.Proofs.YtjoglnjpgkobeaaDoor
open Go Go.RowKit
set_option linter.all false
set_option linter.unusedVariables false
set_option linter.unusedSimpArgs false
set_option linter.unusedVariables false
set_option linter.unusedSimpArgs false
attribute [local go_sem] run_store_one

theorem shr_zero (v w : Int) (hv : 0 ≤ v) : v / 2 ^ w.toNat = 0 ↔ v < 2 ^ w.toNat := by
  have hp : (0 : Int) < 2 ^ w.toNat := Int.pow_pos (by decide)
  generalize (2 : Int) ^ w.toNat = p at *
  constructor
  · intro h
    have h1 := Int.emod_add_mul_ediv v p
    have h2 := Int.emod_lt_of_pos v hp
    rw [h] at h1
    omega
  · exact fun h => Int.ediv_eq_zero_of_lt hv h
theorem all_take {α : Type} {P : α → Prop} {l : List α} {k : Nat} (hk : k < l.length) (h : ∀ y, y ∈ l.take k → P y) (hy : P l[k]) : ∀ y, y ∈ l.take (k + 1) → P y := by
  intro y hm
  rw [List.take_succ_eq_append_getElem hk, List.mem_append] at hm
  rcases hm with hm | hm
  · exact h y hm
  · simp at hm; subst hm; exact hy

end Go.Proofs.YtjoglnjpgkobeaaDoor

/-
  THE CONTRACT OF THE REFERENCE's CHECKING OF AN EXPRESSION.
-/
namespace Go.Proofs.YtjoglnjpgkobeaaDoor
open Go Go.RowKit
set_option linter.all false
set_option linter.unusedVariables false
set_option linter.unusedSimpArgs false
set_option linter.unusedVariables false
set_option linter.unusedSimpArgs false
attribute [local go_sem] run_store_one

theorem calls_still {P : Program} {f : FuncId} {args : Array Value} {w : World} {v : Value} (h : Calls P f args w fun e w' => e = .returned v ∧ w' = w) : Calls P f args w fun e w' => e = .returned v ∧ Ext w w' :=
  h.mono fun e w' he => ⟨he.1, he.2 ▸ Ext.refl _⟩
theorem empty_size {s : ByteArray} (h : s.size = 0) : s.toList.isEmpty = true := by
  rw [ByteArray.toList_eq]
  have : s.data.toList = [] := List.eq_nil_of_length_eq_zero (by simpa using h)
  rw [this]; rfl
theorem full_size {s : ByteArray} (h : ¬ s.size = 0) : s.toList.isEmpty = false := by
  rw [ByteArray.toList_eq]
  cases e : s.data.toList with
  | nil => exact (h (by have := congrArg List.length e; simpa using this)).elim
  | cons _ _ => rfl
end Go.Proofs.YtjoglnjpgkobeaaDoor

/-
  THE CONTRACTS OF THE REFERENCE's CHECKING OF STATEMENTS.
-/
namespace Go.Proofs.YtjoglnjpgkobeaaDoor
open Go Go.RowKit
set_option linter.all false
set_option linter.unusedVariables false
set_option linter.unusedSimpArgs false
set_option linter.unusedVariables false
set_option linter.unusedSimpArgs false
attribute [local go_sem] run_store_one

end Go.Proofs.YtjoglnjpgkobeaaDoor

/-
  THE CONTRACT OF THE REFERENCE's CHECKING OF A CASE's ARMS.
-/
namespace Go.Proofs.YtjoglnjpgkobeaaDoor
open Go Go.RowKit
set_option linter.all false
set_option linter.unusedVariables false
set_option linter.unusedSimpArgs false
set_option linter.unusedVariables false
set_option linter.unusedSimpArgs false
attribute [local go_sem] run_store_one

end Go.Proofs.YtjoglnjpgkobeaaDoor
