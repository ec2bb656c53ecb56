/-
  A LOCAL STRUCT THAT IS LAID, AND STORED AT ONCE.
-/
import Derived.Test.YtjoglnjpgkobeaaGreatDoorWordPk
namespace Go.Proofs.YtjoglnjpgkobeaaGreatDoor
open Go Go.RowKit
set_option linter.all false
set_option linter.unusedVariables false
set_option linter.unusedSimpArgs false
set_option linter.unusedVariables false
set_option linter.unusedSimpArgs false

theorem varI (w : World) (v0 v1 v2 v3 v4 v5 v6 v7 v8 : Value) : ∃ Wb Wc : World, w.alloc (.cells #[.int .i64 0, .string ⟨#[]⟩, .string ⟨#[]⟩, .slice none 0 0, .slice none 0 0, .slice none 0 0, .slice none 0 0, .slice none 0 0, .slice none 0 0] 53) = Wb ∧ (Wb.cell? ⟨w.heap.size, 0, none⟩ = some (.int .i64 0) ∧ Wb.cell? ⟨w.heap.size, 1, none⟩ = some (.string ⟨#[]⟩) ∧ Wb.cell? ⟨w.heap.size, 2, none⟩ = some (.string ⟨#[]⟩) ∧ Wb.cell? ⟨w.heap.size, 3, none⟩ = some (.slice none 0 0) ∧ Wb.cell? ⟨w.heap.size, 4, none⟩ = some (.slice none 0 0) ∧ Wb.cell? ⟨w.heap.size, 5, none⟩ = some (.slice none 0 0) ∧ Wb.cell? ⟨w.heap.size, 6, none⟩ = some (.slice none 0 0) ∧ Wb.cell? ⟨w.heap.size, 7, none⟩ = some (.slice none 0 0) ∧ Wb.cell? ⟨w.heap.size, 8, none⟩ = some (.slice none 0 0)) ∧ (Wb.frozen? ⟨w.heap.size, 0, none⟩ = false ∧ Wb.frozen? ⟨w.heap.size, 1, none⟩ = false ∧ Wb.frozen? ⟨w.heap.size, 2, none⟩ = false ∧ Wb.frozen? ⟨w.heap.size, 3, none⟩ = false ∧ Wb.frozen? ⟨w.heap.size, 4, none⟩ = false ∧ Wb.frozen? ⟨w.heap.size, 5, none⟩ = false ∧ Wb.frozen? ⟨w.heap.size, 6, none⟩ = false ∧ Wb.frozen? ⟨w.heap.size, 7, none⟩ = false ∧ Wb.frozen? ⟨w.heap.size, 8, none⟩ = false) ∧ (((((((((Wb.setCell ⟨w.heap.size, 0, none⟩ v0).setCell ⟨w.heap.size, 1, none⟩ v1).setCell ⟨w.heap.size, 2, none⟩ v2).setCell ⟨w.heap.size, 3, none⟩ v3).setCell ⟨w.heap.size, 4, none⟩ v4).setCell ⟨w.heap.size, 5, none⟩ v5).setCell ⟨w.heap.size, 6, none⟩ v6).setCell ⟨w.heap.size, 7, none⟩ v7).setCell ⟨w.heap.size, 8, none⟩ v8) = Wc ∧ Blk Wc w.heap.size 53 [v0, v1, v2, v3, v4, v5, v6, v7, v8] ∧ Ext w Wc ∧ Wc.heap.size = w.heap.size + 1 := by
  obtain ⟨Wb, hWb, hxb, hbb⟩ := box9 w (.int .i64 0) (.string ⟨#[]⟩) (.string ⟨#[]⟩) (.slice none 0 0) (.slice none 0 0) (.slice none 0 0) (.slice none 0 0) (.slice none 0 0) (.slice none 0 0) 53
  obtain ⟨Wc, hWc⟩ : ∃ Wc, Wc = (((((((((Wb.setCell ⟨w.heap.size, 0, none⟩ v0).setCell ⟨w.heap.size, 1, none⟩ v1).setCell ⟨w.heap.size, 2, none⟩ v2).setCell ⟨w.heap.size, 3, none⟩ v3).setCell ⟨w.heap.size, 4, none⟩ v4).setCell ⟨w.heap.size, 5, none⟩ v5).setCell ⟨w.heap.size, 6, none⟩ v6).setCell ⟨w.heap.size, 7, none⟩ v7).setCell ⟨w.heap.size, 8, none⟩ v8) := ⟨_, rfl⟩
  have hbc := hbb.store9 v0 v1 v2 v3 v4 v5 v6 v7 v8
  rw [← hWc] at hbc
  refine ⟨Wb, Wc, hWb.symm, hbb.get9, hbb.free9, hWc.symm, hbc, ?_, ?_⟩
  · rw [hWc]; exact (((((((((hxb.setCell (Nat.le_refl _) _).setCell (Nat.le_refl _) _).setCell (Nat.le_refl _) _).setCell (Nat.le_refl _) _).setCell (Nat.le_refl _) _).setCell (Nat.le_refl _) _).setCell (Nat.le_refl _) _).setCell (Nat.le_refl _) _).setCell (Nat.le_refl _) _)
  · rw [hWc, hWb]; simp
theorem varS (w : World) (v0 v1 v2 v3 : Value) : ∃ Wb Wc : World, w.alloc (.cells #[.int .i64 0, .string ⟨#[]⟩, .slice none 0 0, .slice none 0 0] 140) = Wb ∧ (Wb.cell? ⟨w.heap.size, 0, none⟩ = some (.int .i64 0) ∧ Wb.cell? ⟨w.heap.size, 1, none⟩ = some (.string ⟨#[]⟩) ∧ Wb.cell? ⟨w.heap.size, 2, none⟩ = some (.slice none 0 0) ∧ Wb.cell? ⟨w.heap.size, 3, none⟩ = some (.slice none 0 0)) ∧ (Wb.frozen? ⟨w.heap.size, 0, none⟩ = false ∧ Wb.frozen? ⟨w.heap.size, 1, none⟩ = false ∧ Wb.frozen? ⟨w.heap.size, 2, none⟩ = false ∧ Wb.frozen? ⟨w.heap.size, 3, none⟩ = false) ∧ ((((Wb.setCell ⟨w.heap.size, 0, none⟩ v0).setCell ⟨w.heap.size, 1, none⟩ v1).setCell ⟨w.heap.size, 2, none⟩ v2).setCell ⟨w.heap.size, 3, none⟩ v3) = Wc ∧ Blk Wc w.heap.size 140 [v0, v1, v2, v3] ∧ Ext w Wc ∧ Wc.heap.size = w.heap.size + 1 := by
  obtain ⟨Wb, hWb, hxb, hbb⟩ := box4 w (.int .i64 0) (.string ⟨#[]⟩) (.slice none 0 0) (.slice none 0 0) 140
  obtain ⟨Wc, hWc⟩ : ∃ Wc, Wc = ((((Wb.setCell ⟨w.heap.size, 0, none⟩ v0).setCell ⟨w.heap.size, 1, none⟩ v1).setCell ⟨w.heap.size, 2, none⟩ v2).setCell ⟨w.heap.size, 3, none⟩ v3) := ⟨_, rfl⟩
  have hbc := hbb.store4 v0 v1 v2 v3
  rw [← hWc] at hbc
  refine ⟨Wb, Wc, hWb.symm, hbb.get4, hbb.free4, hWc.symm, hbc, ?_, ?_⟩
  · rw [hWc]; exact ((((hxb.setCell (Nat.le_refl _) _).setCell (Nat.le_refl _) _).setCell (Nat.le_refl _) _).setCell (Nat.le_refl _) _)
  · rw [hWc, hWb]; simp
theorem varB (w : World) (v0 v1 v2 v3 v4 v5 v6 : Value) : ∃ Wb Wc : World, w.alloc (.cells #[.string ⟨#[]⟩, .int .i64 0, .string ⟨#[]⟩, .int .i64 0, .int .i64 0, .int .u64 0, .slice none 0 0] 85) = Wb ∧ (Wb.cell? ⟨w.heap.size, 0, none⟩ = some (.string ⟨#[]⟩) ∧ Wb.cell? ⟨w.heap.size, 1, none⟩ = some (.int .i64 0) ∧ Wb.cell? ⟨w.heap.size, 2, none⟩ = some (.string ⟨#[]⟩) ∧ Wb.cell? ⟨w.heap.size, 3, none⟩ = some (.int .i64 0) ∧ Wb.cell? ⟨w.heap.size, 4, none⟩ = some (.int .i64 0) ∧ Wb.cell? ⟨w.heap.size, 5, none⟩ = some (.int .u64 0) ∧ Wb.cell? ⟨w.heap.size, 6, none⟩ = some (.slice none 0 0)) ∧ (Wb.frozen? ⟨w.heap.size, 0, none⟩ = false ∧ Wb.frozen? ⟨w.heap.size, 1, none⟩ = false ∧ Wb.frozen? ⟨w.heap.size, 2, none⟩ = false ∧ Wb.frozen? ⟨w.heap.size, 3, none⟩ = false ∧ Wb.frozen? ⟨w.heap.size, 4, none⟩ = false ∧ Wb.frozen? ⟨w.heap.size, 5, none⟩ = false ∧ Wb.frozen? ⟨w.heap.size, 6, none⟩ = false) ∧ (((((((Wb.setCell ⟨w.heap.size, 0, none⟩ v0).setCell ⟨w.heap.size, 1, none⟩ v1).setCell ⟨w.heap.size, 2, none⟩ v2).setCell ⟨w.heap.size, 3, none⟩ v3).setCell ⟨w.heap.size, 4, none⟩ v4).setCell ⟨w.heap.size, 5, none⟩ v5).setCell ⟨w.heap.size, 6, none⟩ v6) = Wc ∧ Blk Wc w.heap.size 85 [v0, v1, v2, v3, v4, v5, v6] ∧ Ext w Wc ∧ Wc.heap.size = w.heap.size + 1 := by
  obtain ⟨Wb, hWb, hxb, hbb⟩ := box7 w (.string ⟨#[]⟩) (.int .i64 0) (.string ⟨#[]⟩) (.int .i64 0) (.int .i64 0) (.int .u64 0) (.slice none 0 0) 85
  obtain ⟨Wc, hWc⟩ : ∃ Wc, Wc = (((((((Wb.setCell ⟨w.heap.size, 0, none⟩ v0).setCell ⟨w.heap.size, 1, none⟩ v1).setCell ⟨w.heap.size, 2, none⟩ v2).setCell ⟨w.heap.size, 3, none⟩ v3).setCell ⟨w.heap.size, 4, none⟩ v4).setCell ⟨w.heap.size, 5, none⟩ v5).setCell ⟨w.heap.size, 6, none⟩ v6) := ⟨_, rfl⟩
  have hbc := hbb.store7 v0 v1 v2 v3 v4 v5 v6
  rw [← hWc] at hbc
  refine ⟨Wb, Wc, hWb.symm, hbb.get7, hbb.free7, hWc.symm, hbc, ?_, ?_⟩
  · rw [hWc]; exact (((((((hxb.setCell (Nat.le_refl _) _).setCell (Nat.le_refl _) _).setCell (Nat.le_refl _) _).setCell (Nat.le_refl _) _).setCell (Nat.le_refl _) _).setCell (Nat.le_refl _) _).setCell (Nat.le_refl _) _)
  · rw [hWc, hWb]; simp
theorem varP (w : World) (v0 v1 v2 v3 v4 v5 v6 v7 : Value) : ∃ Wb Wc : World, w.alloc (.cells #[.string ⟨#[]⟩, .bool false, .int .i64 0, .string ⟨#[]⟩, .int .i64 0, .int .i64 0, .int .u64 0, .slice none 0 0] 83) = Wb ∧ (Wb.cell? ⟨w.heap.size, 0, none⟩ = some (.string ⟨#[]⟩) ∧ Wb.cell? ⟨w.heap.size, 1, none⟩ = some (.bool false) ∧ Wb.cell? ⟨w.heap.size, 2, none⟩ = some (.int .i64 0) ∧ Wb.cell? ⟨w.heap.size, 3, none⟩ = some (.string ⟨#[]⟩) ∧ Wb.cell? ⟨w.heap.size, 4, none⟩ = some (.int .i64 0) ∧ Wb.cell? ⟨w.heap.size, 5, none⟩ = some (.int .i64 0) ∧ Wb.cell? ⟨w.heap.size, 6, none⟩ = some (.int .u64 0) ∧ Wb.cell? ⟨w.heap.size, 7, none⟩ = some (.slice none 0 0)) ∧ (Wb.frozen? ⟨w.heap.size, 0, none⟩ = false ∧ Wb.frozen? ⟨w.heap.size, 1, none⟩ = false ∧ Wb.frozen? ⟨w.heap.size, 2, none⟩ = false ∧ Wb.frozen? ⟨w.heap.size, 3, none⟩ = false ∧ Wb.frozen? ⟨w.heap.size, 4, none⟩ = false ∧ Wb.frozen? ⟨w.heap.size, 5, none⟩ = false ∧ Wb.frozen? ⟨w.heap.size, 6, none⟩ = false ∧ Wb.frozen? ⟨w.heap.size, 7, none⟩ = false) ∧ ((((((((Wb.setCell ⟨w.heap.size, 0, none⟩ v0).setCell ⟨w.heap.size, 1, none⟩ v1).setCell ⟨w.heap.size, 2, none⟩ v2).setCell ⟨w.heap.size, 3, none⟩ v3).setCell ⟨w.heap.size, 4, none⟩ v4).setCell ⟨w.heap.size, 5, none⟩ v5).setCell ⟨w.heap.size, 6, none⟩ v6).setCell ⟨w.heap.size, 7, none⟩ v7) = Wc ∧ Blk Wc w.heap.size 83 [v0, v1, v2, v3, v4, v5, v6, v7] ∧ Ext w Wc ∧ Wc.heap.size = w.heap.size + 1 := by
  obtain ⟨Wb, hWb, hxb, hbb⟩ := box8 w (.string ⟨#[]⟩) (.bool false) (.int .i64 0) (.string ⟨#[]⟩) (.int .i64 0) (.int .i64 0) (.int .u64 0) (.slice none 0 0) 83
  obtain ⟨Wc, hWc⟩ : ∃ Wc, Wc = ((((((((Wb.setCell ⟨w.heap.size, 0, none⟩ v0).setCell ⟨w.heap.size, 1, none⟩ v1).setCell ⟨w.heap.size, 2, none⟩ v2).setCell ⟨w.heap.size, 3, none⟩ v3).setCell ⟨w.heap.size, 4, none⟩ v4).setCell ⟨w.heap.size, 5, none⟩ v5).setCell ⟨w.heap.size, 6, none⟩ v6).setCell ⟨w.heap.size, 7, none⟩ v7) := ⟨_, rfl⟩
  have hbc := hbb.store8 v0 v1 v2 v3 v4 v5 v6 v7
  rw [← hWc] at hbc
  refine ⟨Wb, Wc, hWb.symm, hbb.get8, hbb.free8, hWc.symm, hbc, ?_, ?_⟩
  · rw [hWc]; exact ((((((((hxb.setCell (Nat.le_refl _) _).setCell (Nat.le_refl _) _).setCell (Nat.le_refl _) _).setCell (Nat.le_refl _) _).setCell (Nat.le_refl _) _).setCell (Nat.le_refl _) _).setCell (Nat.le_refl _) _).setCell (Nat.le_refl _) _)
  · rw [hWc, hWb]; simp
theorem varM (w : World) (v0 v1 v2 v3 : Value) : ∃ Wb Wc : World, w.alloc (.cells #[.string ⟨#[]⟩, .slice none 0 0, .slice none 0 0, .slice none 0 0] 33) = Wb ∧ (Wb.cell? ⟨w.heap.size, 0, none⟩ = some (.string ⟨#[]⟩) ∧ Wb.cell? ⟨w.heap.size, 1, none⟩ = some (.slice none 0 0) ∧ Wb.cell? ⟨w.heap.size, 2, none⟩ = some (.slice none 0 0) ∧ Wb.cell? ⟨w.heap.size, 3, none⟩ = some (.slice none 0 0)) ∧ (Wb.frozen? ⟨w.heap.size, 0, none⟩ = false ∧ Wb.frozen? ⟨w.heap.size, 1, none⟩ = false ∧ Wb.frozen? ⟨w.heap.size, 2, none⟩ = false ∧ Wb.frozen? ⟨w.heap.size, 3, none⟩ = false) ∧ ((((Wb.setCell ⟨w.heap.size, 0, none⟩ v0).setCell ⟨w.heap.size, 1, none⟩ v1).setCell ⟨w.heap.size, 2, none⟩ v2).setCell ⟨w.heap.size, 3, none⟩ v3) = Wc ∧ Blk Wc w.heap.size 33 [v0, v1, v2, v3] ∧ Ext w Wc ∧ Wc.heap.size = w.heap.size + 1 := by
  obtain ⟨Wb, hWb, hxb, hbb⟩ := box4 w (.string ⟨#[]⟩) (.slice none 0 0) (.slice none 0 0) (.slice none 0 0) 33
  obtain ⟨Wc, hWc⟩ : ∃ Wc, Wc = ((((Wb.setCell ⟨w.heap.size, 0, none⟩ v0).setCell ⟨w.heap.size, 1, none⟩ v1).setCell ⟨w.heap.size, 2, none⟩ v2).setCell ⟨w.heap.size, 3, none⟩ v3) := ⟨_, rfl⟩
  have hbc := hbb.store4 v0 v1 v2 v3
  rw [← hWc] at hbc
  refine ⟨Wb, Wc, hWb.symm, hbb.get4, hbb.free4, hWc.symm, hbc, ?_, ?_⟩
  · rw [hWc]; exact ((((hxb.setCell (Nat.le_refl _) _).setCell (Nat.le_refl _) _).setCell (Nat.le_refl _) _).setCell (Nat.le_refl _) _)
  · rw [hWc, hWb]; simp
theorem varX (w : World) (v0 v1 v2 v3 v4 v5 : Value) : ∃ Wb Wc : World, w.alloc (.cells #[.int .i64 0, .string ⟨#[]⟩, .int .i64 0, .int .i64 0, .int .u64 0, .slice none 0 0] 49) = Wb ∧ (Wb.cell? ⟨w.heap.size, 0, none⟩ = some (.int .i64 0) ∧ Wb.cell? ⟨w.heap.size, 1, none⟩ = some (.string ⟨#[]⟩) ∧ Wb.cell? ⟨w.heap.size, 2, none⟩ = some (.int .i64 0) ∧ Wb.cell? ⟨w.heap.size, 3, none⟩ = some (.int .i64 0) ∧ Wb.cell? ⟨w.heap.size, 4, none⟩ = some (.int .u64 0) ∧ Wb.cell? ⟨w.heap.size, 5, none⟩ = some (.slice none 0 0)) ∧ (Wb.frozen? ⟨w.heap.size, 0, none⟩ = false ∧ Wb.frozen? ⟨w.heap.size, 1, none⟩ = false ∧ Wb.frozen? ⟨w.heap.size, 2, none⟩ = false ∧ Wb.frozen? ⟨w.heap.size, 3, none⟩ = false ∧ Wb.frozen? ⟨w.heap.size, 4, none⟩ = false ∧ Wb.frozen? ⟨w.heap.size, 5, none⟩ = false) ∧ ((((((Wb.setCell ⟨w.heap.size, 0, none⟩ v0).setCell ⟨w.heap.size, 1, none⟩ v1).setCell ⟨w.heap.size, 2, none⟩ v2).setCell ⟨w.heap.size, 3, none⟩ v3).setCell ⟨w.heap.size, 4, none⟩ v4).setCell ⟨w.heap.size, 5, none⟩ v5) = Wc ∧ Blk Wc w.heap.size 49 [v0, v1, v2, v3, v4, v5] ∧ Ext w Wc ∧ Wc.heap.size = w.heap.size + 1 := by
  obtain ⟨Wb, hWb, hxb, hbb⟩ := box6 w (.int .i64 0) (.string ⟨#[]⟩) (.int .i64 0) (.int .i64 0) (.int .u64 0) (.slice none 0 0) 49
  obtain ⟨Wc, hWc⟩ : ∃ Wc, Wc = ((((((Wb.setCell ⟨w.heap.size, 0, none⟩ v0).setCell ⟨w.heap.size, 1, none⟩ v1).setCell ⟨w.heap.size, 2, none⟩ v2).setCell ⟨w.heap.size, 3, none⟩ v3).setCell ⟨w.heap.size, 4, none⟩ v4).setCell ⟨w.heap.size, 5, none⟩ v5) := ⟨_, rfl⟩
  have hbc := hbb.store6 v0 v1 v2 v3 v4 v5
  rw [← hWc] at hbc
  refine ⟨Wb, Wc, hWb.symm, hbb.get6, hbb.free6, hWc.symm, hbc, ?_, ?_⟩
  · rw [hWc]; exact ((((((hxb.setCell (Nat.le_refl _) _).setCell (Nat.le_refl _) _).setCell (Nat.le_refl _) _).setCell (Nat.le_refl _) _).setCell (Nat.le_refl _) _).setCell (Nat.le_refl _) _)
  · rw [hWc, hWb]; simp

end Go.Proofs.YtjoglnjpgkobeaaGreatDoor
