/-
  THE CONTRACT OF PACKAGE ast's goodI.
-/
import Derived.Test.YtonbgnaopkopoaaDoorGoodXPk
namespace Go.Proofs.YtonbgnaopkopoaaDoor
open Go Go.RowKit
set_option linter.all false
set_option linter.unusedVariables false
set_option linter.unusedSimpArgs false
set_option linter.unusedVariables false
set_option linter.unusedSimpArgs false
attribute [local go_sem] run_store_one

/-- What the second table's row says of an item. -/
def shapeOk (r : SRow) (x : Itm) : Prop := fitsP (r.name = true) x.name ∧ fitsP (r.of = true) x.of ∧ (x.x.length : Int) = r.x ∧ (x.op = 4 → isTargets x.x) ∧
  (r.s = true ∨ x.s.length = 0) ∧ (r.l = true ∨ x.l.length = 0) ∧ (r.els = true ∨ x.els.length = 0) ∧ (r.bind = true ∨ x.params.length = 0 ∧ x.binds.length = 0)
theorem ownI_row {x : Itm} (k : Nat) (r : SRow) (hr : shapeRows[k]? = some r) (hk1 : 1 ≤ k) (hk2 : k ≤ 10) (hop : x.op = k) : ownI x ↔ shapeOk r x := by
  unfold ownI shapeOk countX
  rw [hop]
  have hc : k = 1 ∨ k = 2 ∨ k = 3 ∨ k = 4 ∨ k = 5 ∨ k = 6 ∨ k = 7 ∨ k = 8 ∨ k = 9 ∨ k = 10 := by omega
  rcases hc with rfl | rfl | rfl | rfl | rfl | rfl | rfl | rfl | rfl | rfl
  all_goals
    simp only [shapeRows, List.getElem?_cons_succ, List.getElem?_cons_zero, Option.some.injEq] at hr
    subst hr
    simp
    try omega
theorem ownI_out {x : Itm} (hop : x.op < 1 ∨ 10 < x.op) : ¬ ownI x := by
  rintro ⟨h, h2, _⟩
  omega

/-- The answer, as it is put together. -/
def itemB (b1 b2 : Bool) (xl : Nat) (r : SRow) (cS cL cE cB : Bool) (ba bs bL be bp bb : Bool) : Bool :=
  b1 && (b2 && (((xl : Int) == r.x) && ((r.s || !cS) && ((r.l || !cL) && ((r.els || !cE) && ((r.bind || !cB) && (ba && (bs && (bL && (be && (bp && bb)))))))))))

end Go.Proofs.YtonbgnaopkopoaaDoor
