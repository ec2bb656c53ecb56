/-
  THE CONTRACTS OF THE REFERENCE's TOLD AND CheckX.
-/
import Derived.Test.YtjoglnjpgkobeaaDoorMayRPk
import Derived.Test.YtjoglnjpgkobeaaDoorCntPk
namespace Go.Proofs.YtjoglnjpgkobeaaDoor
open Go Go.RowKit
set_option linter.all false
set_option linter.unusedVariables false
set_option linter.unusedSimpArgs false
set_option linter.unusedVariables false
set_option linter.unusedSimpArgs false
attribute [local go_sem] run_store_one

/-- What a size, a depth, and whether it may be, tell. -/
def told (n d : Nat) (b : Bool) : Int := if 65536 < n ∨ 64 < d then 2 else if b then 0 else 1
end Go.Proofs.YtjoglnjpgkobeaaDoor

/-
  THE CONTRACT OF THE REFERENCE's CHECKING OF A STATEMENT: what is neither.
-/
namespace Go.Proofs.YtjoglnjpgkobeaaDoor
open Go Go.RowKit
set_option linter.all false
set_option linter.unusedVariables false
set_option linter.unusedSimpArgs false
set_option linter.unusedVariables false
set_option linter.unusedSimpArgs false
attribute [local go_sem] run_store_one

theorem opAt_eq (l : List S) (k : Nat) (h : k < l.length) : opAt l k = l[k].op := by
  unfold opAt; rw [List.getElem?_eq_getElem h]

theorem MayS_0 {x : S} (h1 : x.op ≠ 1) (h2 : x.op ≠ 2) (h3 : x.op ≠ 3) (h5 : x.op ≠ 5) (h6 : x.op ≠ 6) : MayS x ↔ (∀ y, y ∈ x.x → MayX y) ∧ (x.name.size = 0) ∧ False := by
  rw [MayS_iff]
  unfold MayXs MayAll
  simp [h1, h2, h3, h5, h6]

end Go.Proofs.YtjoglnjpgkobeaaDoor

/-
  THE CONTRACT OF THE REFERENCE's CHECKING OF A STATEMENT: kind 1.
-/
namespace Go.Proofs.YtjoglnjpgkobeaaDoor
open Go Go.RowKit
set_option linter.all false
set_option linter.unusedVariables false
set_option linter.unusedSimpArgs false
set_option linter.unusedVariables false
set_option linter.unusedSimpArgs false
attribute [local go_sem] run_store_one

theorem MayS_1 {x : S} (hop : x.op = 1) : MayS x ↔ (∀ y, y ∈ x.x → MayX y) ∧ (x.name.size = 0) ∧ (x.x.length = 2) ∧ (isTargets x.x) ∧ (x.l.length = 0) := by
  rw [MayS_iff]
  unfold MayXs MayAll
  simp [hop]

end Go.Proofs.YtjoglnjpgkobeaaDoor

/-
  THE CONTRACT OF THE REFERENCE's CHECKING OF A STATEMENT: kind 2.
-/
namespace Go.Proofs.YtjoglnjpgkobeaaDoor
open Go Go.RowKit
set_option linter.all false
set_option linter.unusedVariables false
set_option linter.unusedSimpArgs false
set_option linter.unusedVariables false
set_option linter.unusedSimpArgs false
attribute [local go_sem] run_store_one

theorem MayS_2 {x : S} (hop : x.op = 2) : MayS x ↔ (∀ y, y ∈ x.x → MayX y) ∧ (x.name.size = 0) ∧ (x.x.length = 1) ∧ (x.l.length = 2) ∧ (opAt x.l 0 = 5) ∧ ((opAt x.l 1 = 5 ∨ opAt x.l 1 = 2)) ∧ (∀ y, y ∈ x.l → MayS y) := by
  rw [MayS_iff]
  unfold MayXs MayAll
  simp [hop]

end Go.Proofs.YtjoglnjpgkobeaaDoor

/-
  THE CONTRACT OF THE REFERENCE's CHECKING OF A STATEMENT: kind 3.
-/
namespace Go.Proofs.YtjoglnjpgkobeaaDoor
open Go Go.RowKit
set_option linter.all false
set_option linter.unusedVariables false
set_option linter.unusedSimpArgs false
set_option linter.unusedVariables false
set_option linter.unusedSimpArgs false
attribute [local go_sem] run_store_one

theorem MayS_3 {x : S} (hop : x.op = 3) : MayS x ↔ (∀ y, y ∈ x.x → MayX y) ∧ (x.name.size = 0) ∧ (x.x.length = 1) ∧ (MayArms x.l) := by
  rw [MayS_iff]
  unfold MayXs MayAll
  simp [hop]

end Go.Proofs.YtjoglnjpgkobeaaDoor
