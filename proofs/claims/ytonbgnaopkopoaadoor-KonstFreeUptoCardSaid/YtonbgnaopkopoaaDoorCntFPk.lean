/-
  THE CONTRACTS OF THE REFERENCE's COUNTING FUNCTIONS: files.
-/
import Derived.Test.YtonbgnaopkopoaaDoorCntPk
namespace Go.Proofs.YtonbgnaopkopoaaDoor
open Go Go.RowKit
set_option linter.all false
set_option linter.unusedVariables false
set_option linter.unusedSimpArgs false
set_option linter.unusedVariables false
set_option linter.unusedSimpArgs false
attribute [local go_sem] run_store_one

theorem iteMax1 (a b : Nat) : (if a < b then (b : Int) else (a : Int)) = ((max a b : Nat) : Int) := by split <;> omega
theorem iteMax2 (a b : Nat) : (if (a : Int) < 1 + (b : Int) then 1 + (b : Int) else (a : Int)) = ((max a (1 + b) : Nat) : Int) := by split <;> omega

end Go.Proofs.YtonbgnaopkopoaaDoor
