/-
  THE CONTRACT OF PACKAGE ast's goodI, of kind 4.
-/
import Derived.Test.YtonbgnaopkopoaaDoorGoodJPk
namespace Go.Proofs.YtonbgnaopkopoaaDoor
open Go Go.RowKit
set_option linter.all false
set_option linter.unusedVariables false
set_option linter.unusedSimpArgs false
set_option linter.unusedVariables false
set_option linter.unusedSimpArgs false
attribute [local go_sem] run_store_one

end Go.Proofs.YtonbgnaopkopoaaDoor

/-
  THE CONTRACTS OF PACKAGE ast's goodI, of any item, AND goodM.
-/
namespace Go.Proofs.YtonbgnaopkopoaaDoor
open Go Go.RowKit
set_option linter.all false
set_option linter.unusedVariables false
set_option linter.unusedSimpArgs false
set_option linter.unusedVariables false
set_option linter.unusedSimpArgs false
attribute [local go_sem] run_store_one

theorem itemB_yes {x : Itm} {r : SRow} (hown : ownI x ↔ shapeOk r x) (h4 : x.op ≠ 4) (ba bs bL be bp bb : Bool) (h1 : ba = yes (∀ y, y ∈ x.x → MayX y)) (h2 : bs = yes (∀ y, y ∈ x.s → MayS y)) (h3 : bL = yes (∀ y, y ∈ x.l → MayI y)) (h4' : be = yes (∀ y, y ∈ x.els → MayI y))
    (h5 : bp = yes (∀ y, y ∈ x.params → MayB y)) (h6 : bb = yes (∀ y, y ∈ x.binds → MayB y)) :
    itemB (yes (fitsP (r.name = true) x.name)) (yes (fitsP (r.of = true) x.of)) x.x.length r (decide (0 < x.s.length)) (decide (0 < x.l.length)) (decide (0 < x.els.length)) (decide ((0 : Int) < (x.params.length : Int) + x.binds.length)) ba bs bL be bp bb = yes (MayI x) := by
  subst h1 h2 h3 h4' h5 h6
  rw [yes_congr MayI_iff, yes_congr (show ownI x ∧ _ ↔ shapeOk r x ∧ _ from ⟨fun h => ⟨hown.1 h.1, h.2⟩, fun h => ⟨hown.2 h.1, h.2⟩⟩)]
  rw [Bool.eq_iff_iff]
  unfold itemB shapeOk MayXs MayAll
  simp only [Bool.and_eq_true, yes_iff, Bool.or_eq_true, beq_iff_eq, Bool.not_eq_true', decide_eq_false_iff_not]
  generalize fitsP (r.name = true) x.name = F1
  generalize fitsP (r.of = true) x.of = F2
  generalize (∀ y, y ∈ x.x → MayX y) = P1
  generalize (∀ y, y ∈ x.s → MayS y) = P2
  generalize (∀ y, y ∈ x.l → MayI y) = P3
  generalize (∀ y, y ∈ x.els → MayI y) = P4
  generalize (∀ y, y ∈ x.params → MayB y) = P5
  generalize (∀ y, y ∈ x.binds → MayB y) = P6
  constructor
  · rintro ⟨a1, a2, a3, a4, a5, a6, a7, a8, a9, a10, a11, a12, a13⟩
    exact ⟨⟨a1, a2, a3, fun h => (h4 h).elim, orRight a4 (fun h => by omega), orRight a5 (fun h => by omega), orRight a6 (fun h => by omega), orRight a7 (fun h => by omega)⟩, a8, a9, a10, a11, a12, a13⟩
  · rintro ⟨⟨a1, a2, a3, -, a4, a5, a6, a7⟩, a8, a9, a10, a11, a12, a13⟩
    exact ⟨a1, a2, a3, orRight a4 (fun h => by omega), orRight a5 (fun h => by omega), orRight a6 (fun h => by omega), orRight a7 (fun h => by omega), a8, a9, a10, a11, a12, a13⟩
theorem itemB_yes4 {x : Itm} {r : SRow} (hown : ownI x ↔ shapeOk r x) (h4 : x.op = 4) (bt ba bs bL be bp bb : Bool) (ht : bt = yes (isTargets x.x)) (h1 : ba = yes (∀ y, y ∈ x.x → MayX y)) (h2 : bs = yes (∀ y, y ∈ x.s → MayS y)) (h3 : bL = yes (∀ y, y ∈ x.l → MayI y)) (h4' : be = yes (∀ y, y ∈ x.els → MayI y))
    (h5 : bp = yes (∀ y, y ∈ x.params → MayB y)) (h6 : bb = yes (∀ y, y ∈ x.binds → MayB y)) :
    itemB (yes (fitsP (r.name = true) x.name)) (yes (fitsP (r.of = true) x.of)) x.x.length r (decide (0 < x.s.length)) (decide (0 < x.l.length)) (decide (0 < x.els.length)) (decide ((0 : Int) < (x.params.length : Int) + x.binds.length)) (bt && ba) bs bL be bp bb = yes (MayI x) := by
  subst h1 h2 h3 h4' h5 h6 ht
  rw [yes_congr MayI_iff, yes_congr (show ownI x ∧ _ ↔ shapeOk r x ∧ _ from ⟨fun h => ⟨hown.1 h.1, h.2⟩, fun h => ⟨hown.2 h.1, h.2⟩⟩)]
  rw [Bool.eq_iff_iff]
  unfold itemB shapeOk MayXs MayAll
  simp only [Bool.and_eq_true, yes_iff, Bool.or_eq_true, beq_iff_eq, Bool.not_eq_true', decide_eq_false_iff_not]
  generalize fitsP (r.name = true) x.name = F1
  generalize fitsP (r.of = true) x.of = F2
  generalize (∀ y, y ∈ x.x → MayX y) = P1
  generalize (∀ y, y ∈ x.s → MayS y) = P2
  generalize (∀ y, y ∈ x.l → MayI y) = P3
  generalize (∀ y, y ∈ x.els → MayI y) = P4
  generalize (∀ y, y ∈ x.params → MayB y) = P5
  generalize (∀ y, y ∈ x.binds → MayB y) = P6
  constructor
  · rintro ⟨a1, a2, a3, a4, a5, a6, a7, ⟨at', a8⟩, a9, a10, a11, a12, a13⟩
    exact ⟨⟨a1, a2, a3, fun _ => at', orRight a4 (fun h => by omega), orRight a5 (fun h => by omega), orRight a6 (fun h => by omega), orRight a7 (fun h => by omega)⟩, a8, a9, a10, a11, a12, a13⟩
  · rintro ⟨⟨a1, a2, a3, at', a4, a5, a6, a7⟩, a8, a9, a10, a11, a12, a13⟩
    exact ⟨a1, a2, a3, orRight a4 (fun h => by omega), orRight a5 (fun h => by omega), orRight a6 (fun h => by omega), orRight a7 (fun h => by omega), ⟨at' h4, a8⟩, a9, a10, a11, a12, a13⟩
theorem itemB_len {b1 b2 : Bool} {xl : Nat} {r : SRow} {cS cL cE cB ba bs bL be bp bb : Bool} (h : ¬ (xl : Int) = r.x) : itemB b1 b2 xl r cS cL cE cB ba bs bL be bp bb = false := by
  unfold itemB
  rw [beq_eq_false_iff_ne.2 h]
  simp

end Go.Proofs.YtonbgnaopkopoaaDoor
