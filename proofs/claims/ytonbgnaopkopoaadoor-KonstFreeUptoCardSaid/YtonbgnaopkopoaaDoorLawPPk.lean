/-
  PLAIN LAWS OF WHAT MAY BE: what may be is made of what may be.
-/
import Derived.Test.YtonbgnaopkopoaaDoorCheckPk
import Derived.Test.YtonbgnaopkopoaaDoorLivePPk
import Derived.Test.YtonbgnaopkopoaaDoorEvalPk
namespace Go.Proofs.YtonbgnaopkopoaaDoor
open Go Go.RowKit
set_option linter.all false
set_option linter.unusedVariables false
set_option linter.unusedSimpArgs false
set_option linter.unusedVariables false
set_option linter.unusedSimpArgs false

noncomputable def checkX (x : X) : Int := told (sizeX x) (deepX x) (yes (MayX x))
noncomputable def checkS (x : S) : Int := told (sizeS x) (deepS x) (yes (MayS x))
theorem told_zero {n d : Nat} {b : Bool} : told n d b = 0 ↔ n ≤ 65536 ∧ d ≤ 64 ∧ b = true := by
  unfold told
  by_cases h : 65536 < n ∨ 64 < d
  · rw [if_pos h]; constructor
    · intro h'; omega
    · rintro ⟨h1, h2, -⟩; omega
  · rw [if_neg h]
    cases b
    · simp
    · simp; omega
theorem told_two {n d : Nat} {b : Bool} : told n d b = 2 ↔ 65536 < n ∨ 64 < d := by
  unfold told
  by_cases h : 65536 < n ∨ 64 < d
  · simp [h]
  · rw [if_neg h]
    cases b <;> simp [h]
theorem told_one {n d : Nat} {b : Bool} : told n d b = 1 ↔ (n ≤ 65536 ∧ d ≤ 64) ∧ b = false := by
  unfold told
  by_cases h : 65536 < n ∨ 64 < d
  · rw [if_pos h]; constructor
    · intro h'; omega
    · rintro ⟨⟨h1, h2⟩, -⟩; omega
  · rw [if_neg h]
    cases b
    · simp; omega
    · simp
theorem checkX_zero {x : X} : checkX x = 0 ↔ sizeX x ≤ 65536 ∧ deepX x ≤ 64 ∧ MayX x := by
  unfold checkX; rw [told_zero, yes_iff]
theorem checkS_zero {x : S} : checkS x = 0 ↔ sizeS x ≤ 65536 ∧ deepS x ≤ 64 ∧ MayS x := by
  unfold checkS; rw [told_zero, yes_iff]

theorem part_checkX {x : X} (h : checkX x = 0) : ∀ y, y ∈ x.l → checkX y = 0 := by
  intro y hy
  obtain ⟨h1, h2, h3⟩ := checkX_zero.1 h
  have := msize_mem sizeX x.l y hy
  have := mdeep_mem deepX x.l y hy
  have := sizeX_eq x
  have := deepX_eq x
  exact checkX_zero.2 ⟨by omega, by omega, (MayX_iff.1 h3).2 y hy⟩
theorem size_ne {s : ByteArray} (h : s.toList ≠ []) : s.size ≠ 0 := by
  intro h0
  apply h
  rw [ByteArray.toList_eq]
  have : s.data.size = 0 := h0
  cases hs : s.data.toList with
  | nil => rfl
  | cons a r => have : s.data.toList.length = 0 := by simpa using this
                rw [hs] at this; cases this
theorem name_checkX {x : X} (h : checkX x = 0) (hn : x.name.size ≠ 0) : checkX (xNm x.name) = 0 := by
  obtain ⟨h1, h2, h3⟩ := checkX_zero.1 h
  obtain ⟨⟨-, -, -, h4⟩, -⟩ := MayX_iff.1 h3
  have hnm : nameP x.name := by
    rcases h4 with h4 | h4
    · exact h4.2
    · exact absurd h4.2 hn
  refine checkX_zero.2 ⟨by simp [xNm, sizeX_eq, X.l, msize], by simp [xNm, deepX_eq, X.l, mdeep], MayX_iff.2 ⟨⟨.inl ⟨.inr rfl, rfl⟩, .inr (.inr (.inr ⟨by simp [xNm, X.op], rfl⟩)), .inl ⟨by simp [xNm, X.op], rfl, rfl⟩, .inl ⟨.inl rfl, hnm⟩⟩, fun y hy => by cases hy⟩⟩
/-- An arm's statements as a block. -/
def armB (y : S) : S := .mk 5 ⟨#[]⟩ [] y.l
theorem armB_size (y : S) : sizeS (armB y) ≤ sizeS y := by
  have e5 := sizeS_eq y
  have e7 := sizeS_eq (armB y)
  have e9 : msize sizeX (armB y).x = 0 := rfl
  have e11 : (armB y).l = y.l := rfl
  rw [e9, e11] at e7
  omega
theorem armB_bounds {y : S} (h : VS y) : VS (armB y) := VS_iff.2 ⟨by show (0 : Nat) < _; decide, (fun z hz => by cases hz), (VS_iff.1 h).2.2⟩
theorem exprs_checkS {s : S} (h : checkS s = 0) : ∀ y, y ∈ s.x → checkX y = 0 := by
  intro y hy
  obtain ⟨h1, h2, h3⟩ := checkS_zero.1 h
  have := msize_mem sizeX s.x y hy
  have := mdeep_mem deepX s.x y hy
  have := sizeS_eq s
  have := deepS_eq s
  exact checkX_zero.2 ⟨by omega, by omega, (MayS_iff.1 h3).1 y hy⟩
theorem MayS_op {s : S} (h : MayS s) : s.op ≠ 4 := by
  obtain ⟨-, -, h⟩ := MayS_iff.1 h
  omega
theorem block_may {y : S} (hl : ∀ z, z ∈ y.l → MayS z) : MayS (armB y) := .block _ rfl rfl rfl hl
theorem stmts_checkS {s : S} (h : checkS s = 0) : ∀ y, y ∈ s.l → (y.op ≠ 4 → checkS y = 0) ∧ (y.op = 4 → checkS (armB y) = 0) := by
  intro y hy
  obtain ⟨h1, h2, h3⟩ := checkS_zero.1 h
  have e1 := msize_mem sizeS s.l y hy
  have e2 := mdeep_mem deepS s.l y hy
  have e3 := sizeS_eq s
  have e4 := deepS_eq s
  have e5 := sizeS_eq y
  have e6 := deepS_eq y
  have e7 := sizeS_eq (armB y)
  have e8 := deepS_eq (armB y)
  have e9 : msize sizeX (armB y).x = 0 := rfl
  have e10 : mdeep deepX (armB y).x = 0 := rfl
  have e11 : (armB y).l = y.l := rfl
  rw [e9, e11] at e7
  rw [e10, e11] at e8
  have hz : sizeS (armB y) ≤ 65536 ∧ deepS (armB y) ≤ 64 := ⟨by omega, by omega⟩
  obtain ⟨-, -, h4⟩ := MayS_iff.1 h3
  rcases h4 with ⟨-, -, -, h0⟩ | ⟨-, -, -, -, -, hall⟩ | ⟨-, -, harm⟩ | ⟨-, -, hall⟩ | ⟨-, -, hall⟩
  · rw [List.eq_nil_of_length_eq_zero h0] at hy; cases hy
  · exact ⟨fun _ => checkS_zero.2 ⟨by omega, by omega, hall y hy⟩, fun h => absurd h (MayS_op (hall y hy))⟩
  · obtain ⟨i, hi, rfl⟩ := List.getElem_of_mem hy
    obtain ⟨ho, -, -, -, hl⟩ := MayArm_iff.1 (harm.2 i hi)
    exact ⟨fun h => absurd ho h, fun _ => checkS_zero.2 ⟨hz.1, hz.2, block_may hl⟩⟩
  · exact ⟨fun _ => checkS_zero.2 ⟨by omega, by omega, hall y hy⟩, fun h => absurd h (MayS_op (hall y hy))⟩
  · exact ⟨fun _ => checkS_zero.2 ⟨by omega, by omega, hall y hy⟩, fun h => absurd h (MayS_op (hall y hy))⟩

end Go.Proofs.YtonbgnaopkopoaaDoor

/-
  CONSTANT EXPRESSIONS, AS PLAIN LAWS: whether they may be.
-/
namespace Go.Proofs.YtonbgnaopkopoaaDoor
open Go Go.RowKit
set_option linter.all false
set_option linter.unusedVariables false
set_option linter.unusedSimpArgs false
set_option linter.unusedVariables false
set_option linter.unusedSimpArgs false

theorem check_subst {env : ByteArray → Option Int} {x : X} (h : checkX x = 0) : checkX (substX env x) = 0 := by
  obtain ⟨h1, h2, h3⟩ := checkX_zero.1 h
  have := size_subst (env := env) x
  have := deep_subst (env := env) x
  exact checkX_zero.2 ⟨by omega, by omega, may_subst x h3⟩

end Go.Proofs.YtonbgnaopkopoaaDoor
