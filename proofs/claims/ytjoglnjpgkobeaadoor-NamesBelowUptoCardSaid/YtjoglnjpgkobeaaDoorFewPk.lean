/-
  THE LAWS' OWN SMALL FUNCTIONS: name, few, fewX, fewS.
-/
import Derived.Test.YtjoglnjpgkobeaaDoorMayS5Pk
import Derived.Test.YtjoglnjpgkobeaaDoorCntFPk
namespace Go.Proofs.YtjoglnjpgkobeaaDoor
open Go Go.RowKit
set_option linter.all false
set_option linter.unusedVariables false
set_option linter.unusedSimpArgs false
set_option linter.unusedVariables false
set_option linter.unusedSimpArgs false
attribute [local go_sem] run_store_one

/-- Is it small enough to be asked of? -/
def fewP (n d : Nat) : Prop := n ≤ 2000 ∧ d ≤ 100

end Go.Proofs.YtjoglnjpgkobeaaDoor
