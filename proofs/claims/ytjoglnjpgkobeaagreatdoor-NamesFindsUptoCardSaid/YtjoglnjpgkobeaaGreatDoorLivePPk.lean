/-
  THE LAWS' EXAMPLE, as plain laws: its trees, and what is so of them.
-/
import Derived.Test.YtjoglnjpgkobeaaGreatDoorWordPk
import Derived.Test.YtjoglnjpgkobeaaGreatDoorFreePPk
import Derived.Test.YtjoglnjpgkobeaaGreatDoorToldPk
import Derived.Test.YtjoglnjpgkobeaaGreatDoorCheckPk
namespace Go.Proofs.YtjoglnjpgkobeaaGreatDoor
open Go Go.RowKit
set_option linter.all false
set_option linter.unusedVariables false
set_option linter.unusedSimpArgs false
set_option linter.unusedVariables false

def tA : ByteArray := ⟨#[97]⟩
def tB : ByteArray := ⟨#[98]⟩
def tY : ByteArray := ⟨#[121]⟩
def tM : ByteArray := ⟨#[109]⟩
def tIf : ByteArray := ⟨#[105, 102]⟩
def tE : ByteArray := ⟨#[]⟩
def xNm (s : ByteArray) : X := .mk 2 s 0 0 0 []
def xNum : X := .mk 1 tE 0 8 3 []
def xMul : X := .mk 6 tE 16 0 0 [xNum, xNm tB]
def xAdd : X := .mk 6 tE 14 0 0 [xNm tA, xMul]
def sAss : S := .mk 1 tE [xNm tY, xAdd] []
def sArm : S := .mk 4 tE [] []
def iComb : Itm := .mk 5 tE tE [] [sAss] [] [] [] []
def mOne : Mdl := ⟨tM, [], [], [iComb]⟩

theorem nameP_A : nameP tA := ⟨by decide, by decide, by decide, by decide⟩
theorem nameP_B : nameP tB := ⟨by decide, by decide, by decide, by decide⟩
theorem nameP_Y : nameP tY := ⟨by decide, by decide, by decide, by decide⟩
theorem nameP_M : nameP tM := ⟨by decide, by decide, by decide, by decide⟩
theorem nameP_If : ¬ nameP tIf := fun h => absurd h.2.2.2 (by decide)
theorem may_nm {s : ByteArray} : MayX (xNm s) ↔ nameP s := by
  rw [MayX_iff]
  constructor
  · rintro ⟨⟨_, _, _, h⟩, _⟩
    rcases h with h | h
    · exact h.2
    · exact (h.1 (.inl rfl)).elim
  · intro h
    exact ⟨⟨.inl ⟨.inr rfl, rfl⟩, .inr (.inr (.inr ⟨(show (2 : Int) ≠ 5 ∧ (2 : Int) ≠ 6 ∧ (2 : Int) ≠ 10 by decide), rfl⟩)), .inl ⟨(show (2 : Int) ≠ 1 by decide), rfl, rfl⟩, .inl ⟨.inl rfl, h⟩⟩, fun y hy => by cases hy⟩
theorem may_num : MayX xNum := .mk _ ⟨.inl ⟨.inl rfl, rfl⟩, .inr (.inr (.inr ⟨by decide, rfl⟩)), .inr ⟨rfl, by decide, by decide, .inr (.inr (by decide))⟩, .inr ⟨by unfold isNamed; decide, rfl⟩⟩ (fun y hy => by cases hy)
theorem all_two {α : Type} {P : α → Prop} {a b : α} (h1 : P a) (h2 : P b) : ∀ y, y ∈ [a, b] → P y := fun y hy => by
  rcases List.mem_cons.1 hy with rfl | hy
  · exact h1
  · rcases List.mem_cons.1 hy with rfl | hy
    · exact h2
    · cases hy
theorem all_one {α : Type} {P : α → Prop} {a : α} (h1 : P a) : ∀ y, y ∈ [a] → P y := fun y hy => by
  rcases List.mem_cons.1 hy with rfl | hy
  · exact h1
  · cases hy
theorem may_mul : MayX xMul := .mk _ ⟨.inr (.inr (.inl ⟨.inr (.inl rfl), rfl⟩)), .inr (.inl ⟨rfl, by decide, by decide⟩), .inl ⟨by decide, rfl, rfl⟩, .inr ⟨by unfold isNamed; decide, rfl⟩⟩ (all_two may_num (may_nm.2 nameP_B))
theorem may_add : MayX xAdd := .mk _ ⟨.inr (.inr (.inl ⟨.inr (.inl rfl), rfl⟩)), .inr (.inl ⟨rfl, by decide, by decide⟩), .inl ⟨by decide, rfl, rfl⟩, .inr ⟨by unfold isNamed; decide, rfl⟩⟩ (all_two (may_nm.2 nameP_A) may_mul)
theorem may_ass : MayS sAss := .assign _ rfl (all_two (may_nm.2 nameP_Y) may_add) rfl rfl (.inl rfl) rfl
theorem may_arm : ¬ MayS sArm := fun h => ((MayS_0 (x := sArm) (by decide) (by decide) (by decide) (by decide) (by decide)).1 h).2.2
theorem may_one : MayM mOne := by
  refine ⟨nameP_M, (fun y hy => by cases hy), (fun y hy => by cases hy), all_one (.mk _ ⟨by decide, by decide, .inr ⟨by decide, rfl⟩, .inr ⟨by decide, rfl⟩, rfl, (fun h => absurd h (by decide)), .inl rfl, .inr (.inr rfl), .inr rfl, .inr ⟨rfl, rfl⟩⟩ (fun y hy => by cases hy) (all_one may_ass) (fun y hy => by cases hy) (fun y hy => by cases hy) (fun y hy => by cases hy) (fun y hy => by cases hy))⟩
theorem vx_nm {s : ByteArray} (h : s.size < 4294967281) : VX (xNm s) := .mk _ (show (0 : Int) ≤ 0 by decide) (show (0 : Int) < 18446744073709551616 by decide) h (fun y hy => by cases hy)
theorem vx_mul : VX xMul := .mk _ (by decide) (by decide) (by decide) (all_two (.mk _ (by decide) (by decide) (by decide) (fun y hy => by cases hy)) (vx_nm (by decide)))
theorem vx_add : VX xAdd := .mk _ (by decide) (by decide) (by decide) (all_two (vx_nm (by decide)) vx_mul)
theorem vs_ass : VS sAss := .mk _ (by decide) (all_two (vx_nm (by decide)) vx_add) (fun y hy => by cases hy)
theorem vs_arm : VS sArm := .mk _ (by decide) (fun y hy => by cases hy) (fun y hy => by cases hy)
theorem vm_one : VM mOne := ⟨by decide, (fun y hy => by cases hy), (fun y hy => by cases hy), all_one (.mk _ (by decide) (by decide) (fun y hy => by cases hy) (all_one vs_ass) (fun y hy => by cases hy) (fun y hy => by cases hy) (fun y hy => by cases hy) (fun y hy => by cases hy))⟩
theorem told_add : told (sizeX xAdd) (deepX xAdd) (yes (MayX xAdd)) = 0 := by rw [yes_iff.2 may_add]; decide
theorem told_if : told (sizeX (xNm tIf)) (deepX (xNm tIf)) (yes (MayX (xNm tIf))) = 1 := by rw [yes_no.2 (fun h => nameP_If (may_nm.1 h))]; decide
theorem told_ass : told (sizeS sAss) (deepS sAss) (yes (MayS sAss)) = 0 := by rw [yes_iff.2 may_ass]; decide
theorem told_arm : told (sizeS sArm) (deepS sArm) (yes (MayS sArm)) = 1 := by rw [yes_no.2 may_arm]; decide
theorem check_one : checkF [mOne] = 0 := by
  unfold checkF
  rw [if_neg (by decide), yes_iff.2 (all_one may_one)]
  decide
theorem size_one : msize sizeM [mOne] = 9 := by decide
theorem deep_one : mdeep deepM [mOne] = 6 := by decide
theorem free_add : freeX xAdd = [tA, tB] := by
  have h : namesX xAdd = [tA, tB] := by decide
  unfold freeX
  rw [h]
  show addOne (addOne [] tA) tB = [tA, tB]
  have h1 : addOne [] tA = [tA] := addOne_out (by simp)
  rw [h1]
  refine addOne_out (fun h => ?_)
  rcases List.mem_cons.1 h with h | h
  · exact absurd (congrArg ByteArray.data h) (by decide)
  · cases h

end Go.Proofs.YtjoglnjpgkobeaaGreatDoor

/-
  PLAIN LAWS OF WHAT MAY BE: what may be is made of what may be.
-/
namespace Go.Proofs.YtjoglnjpgkobeaaGreatDoor
open Go Go.RowKit
set_option linter.all false
set_option linter.unusedVariables false
set_option linter.unusedSimpArgs false
set_option linter.unusedVariables false
set_option linter.unusedSimpArgs false

noncomputable def checkX (x : X) : Int := told (sizeX x) (deepX x) (yes (MayX x))
noncomputable def checkS (x : S) : Int := told (sizeS x) (deepS x) (yes (MayS x))
theorem told_zero {n d : Nat} {b : Bool} : told n d b = 0 ↔ n ≤ 65536 ∧ d ≤ 64 ∧ b = true := by
  unfold told
  by_cases h : 65536 < n ∨ 64 < d
  · rw [if_pos h]; constructor
    · intro h'; omega
    · rintro ⟨h1, h2, -⟩; omega
  · rw [if_neg h]
    cases b
    · simp
    · simp; omega
theorem told_two {n d : Nat} {b : Bool} : told n d b = 2 ↔ 65536 < n ∨ 64 < d := by
  unfold told
  by_cases h : 65536 < n ∨ 64 < d
  · simp [h]
  · rw [if_neg h]
    cases b <;> simp [h]
theorem told_one {n d : Nat} {b : Bool} : told n d b = 1 ↔ (n ≤ 65536 ∧ d ≤ 64) ∧ b = false := by
  unfold told
  by_cases h : 65536 < n ∨ 64 < d
  · rw [if_pos h]; constructor
    · intro h'; omega
    · rintro ⟨⟨h1, h2⟩, -⟩; omega
  · rw [if_neg h]
    cases b
    · simp; omega
    · simp
theorem checkX_zero {x : X} : checkX x = 0 ↔ sizeX x ≤ 65536 ∧ deepX x ≤ 64 ∧ MayX x := by
  unfold checkX; rw [told_zero, yes_iff]
theorem checkS_zero {x : S} : checkS x = 0 ↔ sizeS x ≤ 65536 ∧ deepS x ≤ 64 ∧ MayS x := by
  unfold checkS; rw [told_zero, yes_iff]

theorem part_checkX {x : X} (h : checkX x = 0) : ∀ y, y ∈ x.l → checkX y = 0 := by
  intro y hy
  obtain ⟨h1, h2, h3⟩ := checkX_zero.1 h
  have := msize_mem sizeX x.l y hy
  have := mdeep_mem deepX x.l y hy
  have := sizeX_eq x
  have := deepX_eq x
  exact checkX_zero.2 ⟨by omega, by omega, (MayX_iff.1 h3).2 y hy⟩
theorem size_ne {s : ByteArray} (h : s.toList ≠ []) : s.size ≠ 0 := by
  intro h0
  apply h
  rw [ByteArray.toList_eq]
  have : s.data.size = 0 := h0
  cases hs : s.data.toList with
  | nil => rfl
  | cons a r => have : s.data.toList.length = 0 := by simpa using this
                rw [hs] at this; cases this
theorem name_checkX {x : X} (h : checkX x = 0) (hn : x.name.size ≠ 0) : checkX (xNm x.name) = 0 := by
  obtain ⟨h1, h2, h3⟩ := checkX_zero.1 h
  obtain ⟨⟨-, -, -, h4⟩, -⟩ := MayX_iff.1 h3
  have hnm : nameP x.name := by
    rcases h4 with h4 | h4
    · exact h4.2
    · exact absurd h4.2 hn
  refine checkX_zero.2 ⟨by simp [xNm, sizeX_eq, X.l, msize], by simp [xNm, deepX_eq, X.l, mdeep], MayX_iff.2 ⟨⟨.inl ⟨.inr rfl, rfl⟩, .inr (.inr (.inr ⟨by simp [xNm, X.op], rfl⟩)), .inl ⟨by simp [xNm, X.op], rfl, rfl⟩, .inl ⟨.inl rfl, hnm⟩⟩, fun y hy => by cases hy⟩⟩
/-- An arm's statements as a block. -/
def armB (y : S) : S := .mk 5 ⟨#[]⟩ [] y.l
theorem armB_size (y : S) : sizeS (armB y) ≤ sizeS y := by
  have e5 := sizeS_eq y
  have e7 := sizeS_eq (armB y)
  have e9 : msize sizeX (armB y).x = 0 := rfl
  have e11 : (armB y).l = y.l := rfl
  rw [e9, e11] at e7
  omega
theorem armB_bounds {y : S} (h : VS y) : VS (armB y) := VS_iff.2 ⟨by show (0 : Nat) < _; decide, (fun z hz => by cases hz), (VS_iff.1 h).2.2⟩
theorem exprs_checkS {s : S} (h : checkS s = 0) : ∀ y, y ∈ s.x → checkX y = 0 := by
  intro y hy
  obtain ⟨h1, h2, h3⟩ := checkS_zero.1 h
  have := msize_mem sizeX s.x y hy
  have := mdeep_mem deepX s.x y hy
  have := sizeS_eq s
  have := deepS_eq s
  exact checkX_zero.2 ⟨by omega, by omega, (MayS_iff.1 h3).1 y hy⟩
theorem MayS_op {s : S} (h : MayS s) : s.op ≠ 4 := by
  obtain ⟨-, -, h⟩ := MayS_iff.1 h
  omega
theorem block_may {y : S} (hl : ∀ z, z ∈ y.l → MayS z) : MayS (armB y) := .block _ rfl rfl rfl hl
theorem stmts_checkS {s : S} (h : checkS s = 0) : ∀ y, y ∈ s.l → (y.op ≠ 4 → checkS y = 0) ∧ (y.op = 4 → checkS (armB y) = 0) := by
  intro y hy
  obtain ⟨h1, h2, h3⟩ := checkS_zero.1 h
  have e1 := msize_mem sizeS s.l y hy
  have e2 := mdeep_mem deepS s.l y hy
  have e3 := sizeS_eq s
  have e4 := deepS_eq s
  have e5 := sizeS_eq y
  have e6 := deepS_eq y
  have e7 := sizeS_eq (armB y)
  have e8 := deepS_eq (armB y)
  have e9 : msize sizeX (armB y).x = 0 := rfl
  have e10 : mdeep deepX (armB y).x = 0 := rfl
  have e11 : (armB y).l = y.l := rfl
  rw [e9, e11] at e7
  rw [e10, e11] at e8
  have hz : sizeS (armB y) ≤ 65536 ∧ deepS (armB y) ≤ 64 := ⟨by omega, by omega⟩
  obtain ⟨-, -, h4⟩ := MayS_iff.1 h3
  rcases h4 with ⟨-, -, -, h0⟩ | ⟨-, -, -, -, -, hall⟩ | ⟨-, -, harm⟩ | ⟨-, -, hall⟩ | ⟨-, -, hall⟩
  · rw [List.eq_nil_of_length_eq_zero h0] at hy; cases hy
  · exact ⟨fun _ => checkS_zero.2 ⟨by omega, by omega, hall y hy⟩, fun h => absurd h (MayS_op (hall y hy))⟩
  · obtain ⟨i, hi, rfl⟩ := List.getElem_of_mem hy
    obtain ⟨ho, -, -, -, hl⟩ := MayArm_iff.1 (harm.2 i hi)
    exact ⟨fun h => absurd ho h, fun _ => checkS_zero.2 ⟨hz.1, hz.2, block_may hl⟩⟩
  · exact ⟨fun _ => checkS_zero.2 ⟨by omega, by omega, hall y hy⟩, fun h => absurd h (MayS_op (hall y hy))⟩
  · exact ⟨fun _ => checkS_zero.2 ⟨by omega, by omega, hall y hy⟩, fun h => absurd h (MayS_op (hall y hy))⟩

end Go.Proofs.YtjoglnjpgkobeaaGreatDoor
