/-
  THE CONTRACT OF THE REFERENCE's CHECKING OF A STATEMENT: kind 5.
-/
import Derived.Test.YtjoglnjpgkobeaaDoorToldPk
import Derived.Test.YtjoglnjpgkobeaaDoorWordPk
namespace Go.Proofs.YtjoglnjpgkobeaaDoor
open Go Go.RowKit
set_option linter.all false
set_option linter.unusedVariables false
set_option linter.unusedSimpArgs false
set_option linter.unusedVariables false
set_option linter.unusedSimpArgs false
attribute [local go_sem] run_store_one

theorem MayS_5 {x : S} (hop : x.op = 5) : MayS x ↔ (∀ y, y ∈ x.x → MayX y) ∧ (x.name.size = 0) ∧ (x.x.length = 0) ∧ (∀ y, y ∈ x.l → MayS y) := by
  rw [MayS_iff]
  unfold MayXs MayAll
  simp [hop]

end Go.Proofs.YtjoglnjpgkobeaaDoor

/-
  THE CONTRACT OF THE REFERENCE's CHECKING OF A STATEMENT: kind 6.
-/
namespace Go.Proofs.YtjoglnjpgkobeaaDoor
open Go Go.RowKit
set_option linter.all false
set_option linter.unusedVariables false
set_option linter.unusedSimpArgs false
set_option linter.unusedVariables false
set_option linter.unusedSimpArgs false
attribute [local go_sem] run_store_one

theorem MayS_6 {x : S} (hop : x.op = 6) : MayS x ↔ (∀ y, y ∈ x.x → MayX y) ∧ (nameP x.name) ∧ (x.x.length = 2) ∧ (∀ y, y ∈ x.l → MayS y) := by
  rw [MayS_iff]
  unfold MayXs MayAll
  simp [hop]

end Go.Proofs.YtjoglnjpgkobeaaDoor

/-
  THE CONTRACT OF THE REFERENCE's CHECKING OF A STATEMENT: all kinds.
-/
namespace Go.Proofs.YtjoglnjpgkobeaaDoor
open Go Go.RowKit
set_option linter.all false
set_option linter.unusedVariables false
set_option linter.unusedSimpArgs false
set_option linter.unusedVariables false
set_option linter.unusedSimpArgs false

end Go.Proofs.YtjoglnjpgkobeaaDoor

/-
  THE CONTRACTS OF THE REFERENCE's CheckS.
-/
namespace Go.Proofs.YtjoglnjpgkobeaaDoor
open Go Go.RowKit
set_option linter.all false
set_option linter.unusedVariables false
set_option linter.unusedSimpArgs false
set_option linter.unusedVariables false
set_option linter.unusedSimpArgs false
attribute [local go_sem] run_store_one

/-- A list of one, in a row of its own. -/
theorem Sl.one {α : Type} {R : α → List Value → Prop} {w : World} {B sz g : Nat} {x : α} {cs : List Value} (hb : g < B) (hl : cs.length = sz) (hc : Cells w g 0 cs) (ho : ∀ v, v ∈ cs → v.oneCell' = true) (hr : R x cs) :
    Sl R w B sz [x] (.slice (some ⟨g, 0, none⟩) 1 1) := by
  refine ⟨_, 1, rfl, Nat.le_refl _, fun k hk => ?_⟩
  obtain rfl : k = 0 := by simp at hk; omega
  exact ⟨g, 0, cs, rfl, hb, hl, by simpa using hc, ho, hr⟩

theorem Cells.of4 {w : World} {b : Nat} {v0 v1 v2 v3 : Value} (h0 : w.cell? ⟨b, 0, none⟩ = some v0) (h1 : w.cell? ⟨b, 1, none⟩ = some v1) (h2 : w.cell? ⟨b, 2, none⟩ = some v2) (h3 : w.cell? ⟨b, 3, none⟩ = some v3) : Cells w b 0 [v0, v1, v2, v3] := by
  intro j v hj
  match j with
  | 0 => simp at hj; subst hj; exact h0
  | 1 => simp at hj; subst hj; exact h1
  | 2 => simp at hj; subst hj; exact h2
  | 3 => simp at hj; subst hj; exact h3
  | n + 4 => simp at hj
end Go.Proofs.YtjoglnjpgkobeaaDoor
