/-
  THE CONTRACT OF THE REFERENCE's CHECKING OF A STATEMENT: kind 5.
-/
import Derived.Test.YtjoglnjpgkobeaaGreatDoorToldPk
import Derived.Test.YtjoglnjpgkobeaaGreatDoorWordPk
namespace Go.Proofs.YtjoglnjpgkobeaaGreatDoor
open Go Go.RowKit
set_option linter.all false
set_option linter.unusedVariables false
set_option linter.unusedSimpArgs false
set_option linter.unusedVariables false
set_option linter.unusedSimpArgs false
attribute [local go_sem] run_store_one

theorem MayS_5 {x : S} (hop : x.op = 5) : MayS x ↔ (∀ y, y ∈ x.x → MayX y) ∧ (x.name.size = 0) ∧ (x.x.length = 0) ∧ (∀ y, y ∈ x.l → MayS y) := by
  rw [MayS_iff]
  unfold MayXs MayAll
  simp [hop]

set_option maxRecDepth 20000 in
set_option maxHeartbeats 8000000 in
theorem refMayS_5 (B : Nat) (x : S) (hall : MayAllOk B x.l) (harms : MayArmsOk B x.l) (hvx : ∀ z, z ∈ x.x → VX z) (hts : x.name.size < 4294967281) (hsz : sizeS x ≤ 1000000000) (hop : x.op = 5) : MaySOk B x := by
  intro w cs hR hB
  obtain ⟨a2, a3, rfl, hS2, hS3⟩ := RS_iff.1 hR
  have hs0 : 1 + msize sizeX x.x + msize sizeS x.l ≤ 1000000000 := by rw [← sizeS_eq]; exact hsz
  have hmemx := hide (fun z (hz : z ∈ x.x) => msize_mem sizeX x.x z hz)
  have hlnx := length_le_msize sizeX x.x sizeX_pos
  have hlnl := length_le_msize sizeS x.l sizeS_pos
  rw [yes_congr (MayS_5 (x := x) hop)]
  have HALL := hide hall
  have HARMS := hide harms
  have HVX := hide hvx
  have HS2 := hide hS2
  have HS3 := hide hS3
  obtain ⟨sa, scap, rfl, hsc, hsr⟩ := hS2
  obtain ⟨sb, tcap, rfl, htc, hrow⟩ := hS3
  have HROW := hide hrow
  clear hR hsz hrow hall harms hvx hsc hsr htc
  rw [hop]
  clear hop
  generalize x.name = nm at *
  generalize x.x = fx at *
  generalize x.l = fl at *
  obtain ⟨r, hr⟩ : ∃ r, r = yes ((∀ y, y ∈ fx → MayX y) ∧ (nm.size = 0) ∧ (fx.length = 0) ∧ (∀ y, y ∈ fl → MayS y)) := ⟨_, rfl⟩
  rw [← hr]
  have R := hide hr
  clear hr
  obtain ⟨W1, hW1, hx1, hb1⟩ := box4 w (.int .i64 5) (.string nm) (.slice sa fx.length scap) (.slice sb fl.length tcap) 140
  have hV1 := hW1.symm
  have HB1 := hide hb1
  have hb0 := hx1.size
  obtain ⟨c0, c1, c2, c3⟩ := HB1.out.get4
  clear hW1 hb1
  go_enter Tryz.func142, Tryz.ntmps142
  go_wp2_with fail
  refine (refmayL_of B fx (fun z hz w cs h1 h2 => refMayX_any B z w cs h1 h2 (by have := hmemx.out z hz; omega) (HVX.out z hz)) _ _ (HS2.out.extRX hx1 hB) (Nat.le_trans hB hx1.size) (by omega)).mono ?_
  rintro e w1 ⟨rfl, hz1⟩
  have hy1 := hx1.trans hz1
  have HB1 := hide (HB1.out.ext hz1)
  clear c0 c1 c2 c3
  obtain ⟨c0, c1, c2, c3⟩ := HB1.out.get4
  by_cases hq : ∀ y, y ∈ fx → MayX y
  · rw [yes_iff.2 hq]
    have qMX := hide hq
    clear hq
    by_cases h0 : nm.size = 0
    · have hem := empty_size h0
      have qNE := hide h0
      clear h0
      by_cases hX0 : fx.length = 0
      · have bX0 : ((fx.length : Int) == 0) = true := beq_iff_eq.2 (by omega)
        have qX0 := hide hX0
        clear hX0
        go_wp2_with fail
        refine (HALL.out _ _ (HS3.out.extRS hy1 hB) (Nat.le_trans hB hy1.size)).mono ?_
        rintro e w2 ⟨rfl, hz2⟩
        have hy2 := hy1.trans hz2
        have HB1 := hide (HB1.out.ext hz2)
        clear c0 c1 c2 c3
        obtain ⟨c0, c1, c2, c3⟩ := HB1.out.get4
        by_cases hq : ∀ y, y ∈ fl → MayS y
        · rw [yes_iff.2 hq]
          have qALL := hide hq
          clear hq
          have hr : r = true := by rw [R.out]; exact yes_iff.2 ⟨qMX.out, qNE.out, qX0.out, qALL.out⟩
          subst hr
          go_wp2_with fail
          go_ret
          exact ⟨rfl, hy2⟩
        · rw [yes_no.2 hq]
          have nALL := hide hq
          clear hq
          have hr : r = false := by rw [R.out]; exact yes_no.2 (fun m => nALL.out m.2.2.2)
          subst hr
          go_wp2_with fail
          go_ret
          exact ⟨rfl, hy2⟩
      · have bX0 : ((fx.length : Int) == 0) = false := beq_eq_false_iff_ne.2 (by omega)
        have nX0 := hide hX0
        clear hX0
        have hr : r = false := by rw [R.out]; exact yes_no.2 (fun m => nX0.out m.2.2.1)
        subst hr
        go_wp2_with fail
        go_ret
        exact ⟨rfl, hy1⟩
    · have hem := full_size h0
      have h0i := hide h0
      clear h0
      have hr : r = false := by rw [R.out]; exact yes_no.2 (fun m => h0i.out m.2.1)
      subst hr
      go_wp2_with fail
      go_ret
      exact ⟨rfl, hy1⟩
  · rw [yes_no.2 hq]
    have nMX := hide hq
    clear hq
    have hr : r = false := by rw [R.out]; exact yes_no.2 (fun m => nMX.out m.1)
    subst hr
    go_wp2_with fail
    go_ret
    exact ⟨rfl, hy1⟩

end Go.Proofs.YtjoglnjpgkobeaaGreatDoor

/-
  THE CONTRACT OF THE REFERENCE's CHECKING OF A STATEMENT: kind 6.
-/
namespace Go.Proofs.YtjoglnjpgkobeaaGreatDoor
open Go Go.RowKit
set_option linter.all false
set_option linter.unusedVariables false
set_option linter.unusedSimpArgs false
set_option linter.unusedVariables false
set_option linter.unusedSimpArgs false
attribute [local go_sem] run_store_one

theorem MayS_6 {x : S} (hop : x.op = 6) : MayS x ↔ (∀ y, y ∈ x.x → MayX y) ∧ (nameP x.name) ∧ (x.x.length = 2) ∧ (∀ y, y ∈ x.l → MayS y) := by
  rw [MayS_iff]
  unfold MayXs MayAll
  simp [hop]

set_option maxRecDepth 20000 in
set_option maxHeartbeats 8000000 in
theorem refMayS_6 (B : Nat) (x : S) (hall : MayAllOk B x.l) (harms : MayArmsOk B x.l) (hvx : ∀ z, z ∈ x.x → VX z) (hts : x.name.size < 4294967281) (hsz : sizeS x ≤ 1000000000) (hop : x.op = 6) : MaySOk B x := by
  intro w cs hR hB
  obtain ⟨a2, a3, rfl, hS2, hS3⟩ := RS_iff.1 hR
  have hs0 : 1 + msize sizeX x.x + msize sizeS x.l ≤ 1000000000 := by rw [← sizeS_eq]; exact hsz
  have hmemx := hide (fun z (hz : z ∈ x.x) => msize_mem sizeX x.x z hz)
  have hlnx := length_le_msize sizeX x.x sizeX_pos
  have hlnl := length_le_msize sizeS x.l sizeS_pos
  rw [yes_congr (MayS_6 (x := x) hop)]
  have HALL := hide hall
  have HARMS := hide harms
  have HVX := hide hvx
  have HS2 := hide hS2
  have HS3 := hide hS3
  obtain ⟨sa, scap, rfl, hsc, hsr⟩ := hS2
  obtain ⟨sb, tcap, rfl, htc, hrow⟩ := hS3
  have HROW := hide hrow
  clear hR hsz hrow hall harms hvx hsc hsr htc
  rw [hop]
  clear hop
  generalize x.name = nm at *
  generalize x.x = fx at *
  generalize x.l = fl at *
  obtain ⟨r, hr⟩ : ∃ r, r = yes ((∀ y, y ∈ fx → MayX y) ∧ (nameP nm) ∧ (fx.length = 2) ∧ (∀ y, y ∈ fl → MayS y)) := ⟨_, rfl⟩
  rw [← hr]
  have R := hide hr
  clear hr
  obtain ⟨W1, hW1, hx1, hb1⟩ := box4 w (.int .i64 6) (.string nm) (.slice sa fx.length scap) (.slice sb fl.length tcap) 140
  have hV1 := hW1.symm
  have HB1 := hide hb1
  have hb0 := hx1.size
  obtain ⟨c0, c1, c2, c3⟩ := HB1.out.get4
  clear hW1 hb1
  go_enter Tryz.func142, Tryz.ntmps142
  go_wp2_with fail
  refine (refmayL_of B fx (fun z hz w cs h1 h2 => refMayX_any B z w cs h1 h2 (by have := hmemx.out z hz; omega) (HVX.out z hz)) _ _ (HS2.out.extRX hx1 hB) (Nat.le_trans hB hx1.size) (by omega)).mono ?_
  rintro e w1 ⟨rfl, hz1⟩
  have hy1 := hx1.trans hz1
  have HB1 := hide (HB1.out.ext hz1)
  clear c0 c1 c2 c3
  obtain ⟨c0, c1, c2, c3⟩ := HB1.out.get4
  by_cases hq : ∀ y, y ∈ fx → MayX y
  · rw [yes_iff.2 hq]
    have qMX := hide hq
    clear hq
    by_cases h0 : nm.size = 0
    · have hem := empty_size h0
      have h0i := hide h0
      clear h0
      have hr : r = false := by rw [R.out]; exact yes_no.2 (fun m => (fun (hn : nameP nm) => by have := hn.1; have := h0i.out; omega) m.2.1)
      subst hr
      go_wp2_with fail
      go_ret
      exact ⟨rfl, hy1⟩
    · have hem := full_size h0
      clear h0
      go_wp2_with fail
      refine (refName_any nm _ hts).mono ?_
      rintro e w2 ⟨rfl, hz2⟩
      have hy2 := hy1.trans hz2
      have HB1 := hide (HB1.out.ext hz2)
      clear c0 c1 c2 c3
      obtain ⟨c0, c1, c2, c3⟩ := HB1.out.get4
      by_cases hq : nameP nm
      · rw [nameOk_iff.2 hq]
        have qNM := hide hq
        clear hq
        by_cases hX2 : fx.length = 2
        · have bX2 : ((fx.length : Int) == 2) = true := beq_iff_eq.2 (by omega)
          have qX2 := hide hX2
          clear hX2
          go_wp2_with fail
          refine (HALL.out _ _ (HS3.out.extRS hy2 hB) (Nat.le_trans hB hy2.size)).mono ?_
          rintro e w3 ⟨rfl, hz3⟩
          have hy3 := hy2.trans hz3
          have HB1 := hide (HB1.out.ext hz3)
          clear c0 c1 c2 c3
          obtain ⟨c0, c1, c2, c3⟩ := HB1.out.get4
          by_cases hq : ∀ y, y ∈ fl → MayS y
          · rw [yes_iff.2 hq]
            have qALL := hide hq
            clear hq
            have hr : r = true := by rw [R.out]; exact yes_iff.2 ⟨qMX.out, qNM.out, qX2.out, qALL.out⟩
            subst hr
            go_wp2_with fail
            go_ret
            exact ⟨rfl, hy3⟩
          · rw [yes_no.2 hq]
            have nALL := hide hq
            clear hq
            have hr : r = false := by rw [R.out]; exact yes_no.2 (fun m => nALL.out m.2.2.2)
            subst hr
            go_wp2_with fail
            go_ret
            exact ⟨rfl, hy3⟩
        · have bX2 : ((fx.length : Int) == 2) = false := beq_eq_false_iff_ne.2 (by omega)
          have nX2 := hide hX2
          clear hX2
          have hr : r = false := by rw [R.out]; exact yes_no.2 (fun m => nX2.out m.2.2.1)
          subst hr
          go_wp2_with fail
          go_ret
          exact ⟨rfl, hy2⟩
      · rw [nameOk_no hq]
        have nNM := hide hq
        clear hq
        have hr : r = false := by rw [R.out]; exact yes_no.2 (fun m => nNM.out m.2.1)
        subst hr
        go_wp2_with fail
        go_ret
        exact ⟨rfl, hy2⟩
  · rw [yes_no.2 hq]
    have nMX := hide hq
    clear hq
    have hr : r = false := by rw [R.out]; exact yes_no.2 (fun m => nMX.out m.1)
    subst hr
    go_wp2_with fail
    go_ret
    exact ⟨rfl, hy1⟩

end Go.Proofs.YtjoglnjpgkobeaaGreatDoor

/-
  THE CONTRACT OF THE REFERENCE's CHECKING OF A STATEMENT: all kinds.
-/
namespace Go.Proofs.YtjoglnjpgkobeaaGreatDoor
open Go Go.RowKit
set_option linter.all false
set_option linter.unusedVariables false
set_option linter.unusedSimpArgs false
set_option linter.unusedVariables false
set_option linter.unusedSimpArgs false

theorem refMayS_both (B : Nat) (x : S) : VS x → sizeS x ≤ 1000000000 → MaySOk B x ∧ MayAllOk B x.l := by
  induction x using S.ind with
  | h x ih =>
    intro hv hsz
    obtain ⟨hts, hvx, hvl⟩ := VS_iff.1 hv
    have hs0 : 1 + msize sizeX x.x + msize sizeS x.l ≤ 1000000000 := by rw [← sizeS_eq]; exact hsz
    have hln := length_le_msize sizeS x.l sizeS_pos
    have hone : ∀ y, y ∈ x.l → MaySOk B y ∧ MayAllOk B y.l := fun y hy => ih y hy (hvl y hy) (by have := msize_mem sizeS x.l y hy; omega)
    have hall : MayAllOk B x.l := fun w v hS hB => refMayAll_of B x.l (fun y hy w cs h1 h2 => (hone y hy).1 w cs h1 h2) w v hS hB (by omega)
    have harms : MayArmsOk B x.l := fun w v hS hB => refarms_of B x.l (fun y hy w v h1 h2 => (hone y hy).2 w v h1 h2) (fun y hy => (VS_iff.1 (hvl y hy)).2.1) w v hS hB (by omega)
      (fun y hy => (VS_iff.1 (hvl y hy)).1)
    refine ⟨?_, hall⟩
    by_cases h1 : x.op = 1
    · exact refMayS_1 B x hall harms hvx hts hsz h1
    by_cases h2 : x.op = 2
    · exact refMayS_2 B x hall harms hvx hts hsz h2
    by_cases h3 : x.op = 3
    · exact refMayS_3 B x hall harms hvx hts hsz h3
    by_cases h5 : x.op = 5
    · exact refMayS_5 B x hall harms hvx hts hsz h5
    by_cases h6 : x.op = 6
    · exact refMayS_6 B x hall harms hvx hts hsz h6
    exact refMayS_0 B x hall harms hvx hts hsz h1 h2 h3 h5 h6
theorem refMayS_any (B : Nat) (x : S) (hv : VS x) (hsz : sizeS x ≤ 1000000000) : MaySOk B x := (refMayS_both B x hv hsz).1
theorem refMayAll_any (B : Nat) (l : List S) (hv : ∀ x, x ∈ l → VS x) (hsz : msize sizeS l ≤ 1000000000) : MayAllOk B l :=
  fun w v hS hB => refMayAll_of B l (fun y hy w cs h1 h2 => refMayS_any B y (hv y hy) (by have := msize_mem sizeS l y hy; omega) w cs h1 h2) w v hS hB (by have := length_le_msize sizeS l sizeS_pos; omega)

end Go.Proofs.YtjoglnjpgkobeaaGreatDoor

/-
  THE CONTRACTS OF THE REFERENCE's CheckS.
-/
namespace Go.Proofs.YtjoglnjpgkobeaaGreatDoor
open Go Go.RowKit
set_option linter.all false
set_option linter.unusedVariables false
set_option linter.unusedSimpArgs false
set_option linter.unusedVariables false
set_option linter.unusedSimpArgs false
attribute [local go_sem] run_store_one

/-- A list of one, in a row of its own. -/
theorem Sl.one {α : Type} {R : α → List Value → Prop} {w : World} {B sz g : Nat} {x : α} {cs : List Value} (hb : g < B) (hl : cs.length = sz) (hc : Cells w g 0 cs) (ho : ∀ v, v ∈ cs → v.oneCell' = true) (hr : R x cs) :
    Sl R w B sz [x] (.slice (some ⟨g, 0, none⟩) 1 1) := by
  refine ⟨_, 1, rfl, Nat.le_refl _, fun k hk => ?_⟩
  obtain rfl : k = 0 := by simp at hk; omega
  exact ⟨g, 0, cs, rfl, hb, hl, by simpa using hc, ho, hr⟩

theorem Cells.of4 {w : World} {b : Nat} {v0 v1 v2 v3 : Value} (h0 : w.cell? ⟨b, 0, none⟩ = some v0) (h1 : w.cell? ⟨b, 1, none⟩ = some v1) (h2 : w.cell? ⟨b, 2, none⟩ = some v2) (h3 : w.cell? ⟨b, 3, none⟩ = some v3) : Cells w b 0 [v0, v1, v2, v3] := by
  intro j v hj
  match j with
  | 0 => simp at hj; subst hj; exact h0
  | 1 => simp at hj; subst hj; exact h1
  | 2 => simp at hj; subst hj; exact h2
  | 3 => simp at hj; subst hj; exact h3
  | n + 4 => simp at hj
end Go.Proofs.YtjoglnjpgkobeaaGreatDoor
