/-
  THE LAWS' EXAMPLE, as plain laws: its trees, and what is so of them.
-/
import Derived.Test.YtonbgnaopkopoaaDoorWordPk
import Derived.Test.YtonbgnaopkopoaaDoorFreePPk
import Derived.Test.YtonbgnaopkopoaaDoorToldPk
import Derived.Test.YtonbgnaopkopoaaDoorCheckPk
namespace Go.Proofs.YtonbgnaopkopoaaDoor
open Go Go.RowKit
set_option linter.all false
set_option linter.unusedVariables false
set_option linter.unusedSimpArgs false
set_option linter.unusedVariables false

def tA : ByteArray := ⟨#[97]⟩
def tB : ByteArray := ⟨#[98]⟩
def tY : ByteArray := ⟨#[121]⟩
def tM : ByteArray := ⟨#[109]⟩
def tIf : ByteArray := ⟨#[105, 102]⟩
def tE : ByteArray := ⟨#[]⟩
def xNm (s : ByteArray) : X := .mk 2 s 0 0 0 []
def xNum : X := .mk 1 tE 0 8 3 []
def xMul : X := .mk 6 tE 16 0 0 [xNum, xNm tB]
def xAdd : X := .mk 6 tE 14 0 0 [xNm tA, xMul]
def sAss : S := .mk 1 tE [xNm tY, xAdd] []
def sArm : S := .mk 4 tE [] []
def iComb : Itm := .mk 5 tE tE [] [sAss] [] [] [] []
def mOne : Mdl := ⟨tM, [], [], [iComb]⟩

theorem nameP_A : nameP tA := ⟨by decide, by decide, by decide, by decide⟩
theorem nameP_B : nameP tB := ⟨by decide, by decide, by decide, by decide⟩
theorem nameP_Y : nameP tY := ⟨by decide, by decide, by decide, by decide⟩
theorem nameP_M : nameP tM := ⟨by decide, by decide, by decide, by decide⟩
theorem nameP_If : ¬ nameP tIf := fun h => absurd h.2.2.2 (by decide)
theorem may_nm {s : ByteArray} : MayX (xNm s) ↔ nameP s := by
  rw [MayX_iff]
  constructor
  · rintro ⟨⟨_, _, _, h⟩, _⟩
    rcases h with h | h
    · exact h.2
    · exact (h.1 (.inl rfl)).elim
  · intro h
    exact ⟨⟨.inl ⟨.inr rfl, rfl⟩, .inr (.inr (.inr ⟨(show (2 : Int) ≠ 5 ∧ (2 : Int) ≠ 6 ∧ (2 : Int) ≠ 10 by decide), rfl⟩)), .inl ⟨(show (2 : Int) ≠ 1 by decide), rfl, rfl⟩, .inl ⟨.inl rfl, h⟩⟩, fun y hy => by cases hy⟩
theorem may_num : MayX xNum := .mk _ ⟨.inl ⟨.inl rfl, rfl⟩, .inr (.inr (.inr ⟨by decide, rfl⟩)), .inr ⟨rfl, by decide, by decide, .inr (.inr (by decide))⟩, .inr ⟨by unfold isNamed; decide, rfl⟩⟩ (fun y hy => by cases hy)
theorem all_two {α : Type} {P : α → Prop} {a b : α} (h1 : P a) (h2 : P b) : ∀ y, y ∈ [a, b] → P y := fun y hy => by
  rcases List.mem_cons.1 hy with rfl | hy
  · exact h1
  · rcases List.mem_cons.1 hy with rfl | hy
    · exact h2
    · cases hy
theorem all_one {α : Type} {P : α → Prop} {a : α} (h1 : P a) : ∀ y, y ∈ [a] → P y := fun y hy => by
  rcases List.mem_cons.1 hy with rfl | hy
  · exact h1
  · cases hy
theorem may_mul : MayX xMul := .mk _ ⟨.inr (.inr (.inl ⟨.inr (.inl rfl), rfl⟩)), .inr (.inl ⟨rfl, by decide, by decide⟩), .inl ⟨by decide, rfl, rfl⟩, .inr ⟨by unfold isNamed; decide, rfl⟩⟩ (all_two may_num (may_nm.2 nameP_B))
theorem may_add : MayX xAdd := .mk _ ⟨.inr (.inr (.inl ⟨.inr (.inl rfl), rfl⟩)), .inr (.inl ⟨rfl, by decide, by decide⟩), .inl ⟨by decide, rfl, rfl⟩, .inr ⟨by unfold isNamed; decide, rfl⟩⟩ (all_two (may_nm.2 nameP_A) may_mul)
theorem may_ass : MayS sAss := .assign _ rfl (all_two (may_nm.2 nameP_Y) may_add) rfl rfl (.inl rfl) rfl
theorem may_arm : ¬ MayS sArm := fun h => ((MayS_0 (x := sArm) (by decide) (by decide) (by decide) (by decide) (by decide)).1 h).2.2
theorem may_one : MayM mOne := by
  refine ⟨nameP_M, (fun y hy => by cases hy), (fun y hy => by cases hy), all_one (.mk _ ⟨by decide, by decide, .inr ⟨by decide, rfl⟩, .inr ⟨by decide, rfl⟩, rfl, (fun h => absurd h (by decide)), .inl rfl, .inr (.inr rfl), .inr rfl, .inr ⟨rfl, rfl⟩⟩ (fun y hy => by cases hy) (all_one may_ass) (fun y hy => by cases hy) (fun y hy => by cases hy) (fun y hy => by cases hy) (fun y hy => by cases hy))⟩
theorem vx_nm {s : ByteArray} (h : s.size < 4294967281) : VX (xNm s) := .mk _ (show (0 : Int) ≤ 0 by decide) (show (0 : Int) < 18446744073709551616 by decide) h (fun y hy => by cases hy)
theorem vx_mul : VX xMul := .mk _ (by decide) (by decide) (by decide) (all_two (.mk _ (by decide) (by decide) (by decide) (fun y hy => by cases hy)) (vx_nm (by decide)))
theorem vx_add : VX xAdd := .mk _ (by decide) (by decide) (by decide) (all_two (vx_nm (by decide)) vx_mul)
theorem vs_ass : VS sAss := .mk _ (by decide) (all_two (vx_nm (by decide)) vx_add) (fun y hy => by cases hy)
theorem vs_arm : VS sArm := .mk _ (by decide) (fun y hy => by cases hy) (fun y hy => by cases hy)
theorem vm_one : VM mOne := ⟨by decide, (fun y hy => by cases hy), (fun y hy => by cases hy), all_one (.mk _ (by decide) (by decide) (fun y hy => by cases hy) (all_one vs_ass) (fun y hy => by cases hy) (fun y hy => by cases hy) (fun y hy => by cases hy) (fun y hy => by cases hy))⟩
theorem told_add : told (sizeX xAdd) (deepX xAdd) (yes (MayX xAdd)) = 0 := by rw [yes_iff.2 may_add]; decide
theorem told_if : told (sizeX (xNm tIf)) (deepX (xNm tIf)) (yes (MayX (xNm tIf))) = 1 := by rw [yes_no.2 (fun h => nameP_If (may_nm.1 h))]; decide
theorem told_ass : told (sizeS sAss) (deepS sAss) (yes (MayS sAss)) = 0 := by rw [yes_iff.2 may_ass]; decide
theorem told_arm : told (sizeS sArm) (deepS sArm) (yes (MayS sArm)) = 1 := by rw [yes_no.2 may_arm]; decide
theorem check_one : checkF [mOne] = 0 := by
  unfold checkF
  rw [if_neg (by decide), yes_iff.2 (all_one may_one)]
  decide
theorem size_one : msize sizeM [mOne] = 9 := by decide
theorem deep_one : mdeep deepM [mOne] = 6 := by decide
theorem free_add : freeX xAdd = [tA, tB] := by
  have h : namesX xAdd = [tA, tB] := by decide
  unfold freeX
  rw [h]
  show addOne (addOne [] tA) tB = [tA, tB]
  have h1 : addOne [] tA = [tA] := addOne_out (by simp)
  rw [h1]
  refine addOne_out (fun h => ?_)
  rcases List.mem_cons.1 h with h | h
  · exact absurd (congrArg ByteArray.data h) (by decide)
  · cases h

end Go.Proofs.YtonbgnaopkopoaaDoor
