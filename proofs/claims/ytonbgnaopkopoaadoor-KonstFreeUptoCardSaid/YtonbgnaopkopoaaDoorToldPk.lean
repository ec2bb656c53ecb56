/-
  THE CONTRACTS OF THE REFERENCE's TOLD AND CheckX.
-/
import Derived.Test.YtonbgnaopkopoaaDoorMayRPk
import Derived.Test.YtonbgnaopkopoaaDoorCntPk
namespace Go.Proofs.YtonbgnaopkopoaaDoor
open Go Go.RowKit
set_option linter.all false
set_option linter.unusedVariables false
set_option linter.unusedSimpArgs false
set_option linter.unusedVariables false
set_option linter.unusedSimpArgs false
attribute [local go_sem] run_store_one

/-- What a size, a depth, and whether it may be, tell. -/
def told (n d : Nat) (b : Bool) : Int := if 65536 < n ∨ 64 < d then 2 else if b then 0 else 1
set_option maxRecDepth 20000 in
set_option maxHeartbeats 1000000 in
theorem reftold_any (n d : Nat) (b : Bool) (w : World) : Calls Tryd.prog 54 #[.int .i64 n, .int .i64 d, .bool b] w fun e w' => e = .returned (.int .i64 (told n d b)) ∧ w' = w := by
  obtain ⟨r, hr⟩ : ∃ r, r = told n d b := ⟨_, rfl⟩
  rw [← hr]
  have R := hide hr
  clear hr
  go_enter Tryd.func54, Tryd.ntmps54
  by_cases h1 : 65536 < n
  · have hr : r = 2 := by rw [R.out]; unfold told; rw [if_pos (.inl h1)]
    subst hr
    have h1' : (65536 : Int) < n := by omega
    clear h1
    go_wp2_with fail
    go_ret
    exact ⟨rfl, rfl⟩
  · by_cases h2 : 64 < d
    · have hr : r = 2 := by rw [R.out]; unfold told; rw [if_pos (.inr h2)]
      subst hr
      have h1' : ¬ (65536 : Int) < n := by omega
      have h2' : (64 : Int) < d := by omega
      clear h1 h2
      go_wp2_with fail
      go_ret
      exact ⟨rfl, rfl⟩
    · have h3 : ¬ (65536 < n ∨ 64 < d) := by omega
      have h1' : ¬ (65536 : Int) < n := by omega
      have h2' : ¬ (64 : Int) < d := by omega
      cases b with
      | true =>
        have hr : r = 0 := by rw [R.out]; unfold told; rw [if_neg h3]; rfl
        subst hr
        clear h1 h2 h3
        go_wp2_with fail
        go_ret
        exact ⟨rfl, rfl⟩
      | false =>
        have hr : r = 1 := by rw [R.out]; unfold told; rw [if_neg h3]; rfl
        subst hr
        clear h1 h2 h3
        go_wp2_with fail
        go_ret
        exact ⟨rfl, rfl⟩

set_option maxRecDepth 20000 in
set_option maxHeartbeats 1000000 in
theorem refCheckX_any (B : Nat) (x : X) (w : World) (cs : List Value) (hR : RX w B x cs) (hB : B ≤ w.heap.size) (hsz : sizeX x ≤ 1000000000) (hvx : VX x) :
    Calls Tryd.prog 38 #[.agg cs.toArray] w fun e w' => e = .returned (.int .i64 (told (sizeX x) (deepX x) (yes (MayX x)))) ∧ Ext w w' := by
  have HR := hide hR
  obtain ⟨a5, rfl, hS⟩ := RX_iff.1 hR
  have o5 := hS.oneCell
  have hdl := deepX_le x
  obtain ⟨W1, hW1, hx1, hb1⟩ := box6 w (.int .i64 x.op) (.string x.name) (.int .i64 x.n) (.int .i64 x.w) (.int .u64 x.v) a5 25
  have hV1 := hW1.symm
  have hB1 : B ≤ W1.heap.size := Nat.le_trans hB hx1.size
  obtain ⟨c0, c1, c2, c3, c4, c5⟩ := hb1.later6
  have G1 := hide (fun e : Later W1 => refSizeX_any B x e.w _ (HR.out.ext (hx1.trans e.ext) hB) (Nat.le_trans hB1 e.ext.size) hsz)
  have G2 := hide (fun e : Later W1 => refDeepX_any B x e.w _ (HR.out.ext (hx1.trans e.ext) hB) (Nat.le_trans hB1 e.ext.size) hsz)
  have G3 := hide (fun e : Later W1 => refMayX_any B x e.w _ (HR.out.ext (hx1.trans e.ext) hB) (Nat.le_trans hB1 e.ext.size) hsz hvx)
  have G4 := hide (fun e : Later W1 => calls_still (reftold_any (sizeX x) (deepX x) (yes (MayX x)) e.w))
  obtain ⟨r, hr⟩ : ∃ r, r = told (sizeX x) (deepX x) (yes (MayX x)) := ⟨_, rfl⟩
  rw [← hr]
  have HRR := hide hr
  clear hW1 hb1 hR hS hvx hr
  go_enter Tryd.func38, Tryd.ntmps38
  go_wp2_with fail
  refine wp_region_later_last (W := W1) (by kernel_rfl) rfl (by kernel_rfl) (by kernel_rfl) (Ext.refl _) ?_
  dsimp only [List.dropLast]
  repeat (go_big_quiet_step (first
    | (go_at_call 36; exact Later.calls (G1.out _)) | (go_at_call 29; exact Later.calls (G2.out _))
    | (go_at_call 55; exact Later.calls (G3.out _)) | (go_at_call 54; exact Later.calls (G4.out _))))
  refine wpQuiet_nil ?_
  intro e
  go_wp2_with fail
  go_ret
  exact ⟨by rw [HRR.out]; rfl, hx1.trans e.ext⟩

end Go.Proofs.YtonbgnaopkopoaaDoor

/-
  THE CONTRACT OF THE REFERENCE's CHECKING OF A STATEMENT: what is neither.
-/
namespace Go.Proofs.YtonbgnaopkopoaaDoor
open Go Go.RowKit
set_option linter.all false
set_option linter.unusedVariables false
set_option linter.unusedSimpArgs false
set_option linter.unusedVariables false
set_option linter.unusedSimpArgs false
attribute [local go_sem] run_store_one

theorem opAt_eq (l : List S) (k : Nat) (h : k < l.length) : opAt l k = l[k].op := by
  unfold opAt; rw [List.getElem?_eq_getElem h]

theorem MayS_0 {x : S} (h1 : x.op ≠ 1) (h2 : x.op ≠ 2) (h3 : x.op ≠ 3) (h5 : x.op ≠ 5) (h6 : x.op ≠ 6) : MayS x ↔ (∀ y, y ∈ x.x → MayX y) ∧ (x.name.size = 0) ∧ False := by
  rw [MayS_iff]
  unfold MayXs MayAll
  simp [h1, h2, h3, h5, h6]

end Go.Proofs.YtonbgnaopkopoaaDoor

/-
  THE CONTRACT OF THE REFERENCE's CHECKING OF A STATEMENT: kind 1.
-/
namespace Go.Proofs.YtonbgnaopkopoaaDoor
open Go Go.RowKit
set_option linter.all false
set_option linter.unusedVariables false
set_option linter.unusedSimpArgs false
set_option linter.unusedVariables false
set_option linter.unusedSimpArgs false
attribute [local go_sem] run_store_one

theorem MayS_1 {x : S} (hop : x.op = 1) : MayS x ↔ (∀ y, y ∈ x.x → MayX y) ∧ (x.name.size = 0) ∧ (x.x.length = 2) ∧ (isTargets x.x) ∧ (x.l.length = 0) := by
  rw [MayS_iff]
  unfold MayXs MayAll
  simp [hop]

end Go.Proofs.YtonbgnaopkopoaaDoor

/-
  THE CONTRACT OF THE REFERENCE's CHECKING OF A STATEMENT: kind 2.
-/
namespace Go.Proofs.YtonbgnaopkopoaaDoor
open Go Go.RowKit
set_option linter.all false
set_option linter.unusedVariables false
set_option linter.unusedSimpArgs false
set_option linter.unusedVariables false
set_option linter.unusedSimpArgs false
attribute [local go_sem] run_store_one

theorem MayS_2 {x : S} (hop : x.op = 2) : MayS x ↔ (∀ y, y ∈ x.x → MayX y) ∧ (x.name.size = 0) ∧ (x.x.length = 1) ∧ (x.l.length = 2) ∧ (opAt x.l 0 = 5) ∧ ((opAt x.l 1 = 5 ∨ opAt x.l 1 = 2)) ∧ (∀ y, y ∈ x.l → MayS y) := by
  rw [MayS_iff]
  unfold MayXs MayAll
  simp [hop]

end Go.Proofs.YtonbgnaopkopoaaDoor

/-
  THE CONTRACT OF THE REFERENCE's CHECKING OF A STATEMENT: kind 3.
-/
namespace Go.Proofs.YtonbgnaopkopoaaDoor
open Go Go.RowKit
set_option linter.all false
set_option linter.unusedVariables false
set_option linter.unusedSimpArgs false
set_option linter.unusedVariables false
set_option linter.unusedSimpArgs false
attribute [local go_sem] run_store_one

theorem MayS_3 {x : S} (hop : x.op = 3) : MayS x ↔ (∀ y, y ∈ x.x → MayX y) ∧ (x.name.size = 0) ∧ (x.x.length = 1) ∧ (MayArms x.l) := by
  rw [MayS_iff]
  unfold MayXs MayAll
  simp [hop]

end Go.Proofs.YtonbgnaopkopoaaDoor
