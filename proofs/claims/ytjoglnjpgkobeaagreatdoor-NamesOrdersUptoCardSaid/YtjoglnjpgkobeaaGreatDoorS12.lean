/-
  THE CONTRACT OF THE REFERENCE's CHECKING OF A STATEMENT: what is neither.
-/
import Derived.Test.YtjoglnjpgkobeaaGreatDoorProg
import Derived.Test.YtjoglnjpgkobeaaGreatDoorS10
import Derived.Test.YtjoglnjpgkobeaaGreatDoorS7
import Derived.Test.YtjoglnjpgkobeaaGreatDoorS3
namespace Go.Proofs.YtjoglnjpgkobeaaGreatDoor
open Go Go.RowKit
set_option linter.all false
set_option linter.unusedVariables false
set_option linter.unusedSimpArgs false
set_option linter.unusedVariables false
set_option linter.unusedSimpArgs false
attribute [local go_sem] run_store_one
/-- What MayAll answers of some statements. -/
def MayAllOk (B : Nat) (l : List S) : Prop := ∀ (w : World) (v : Value), Sl (RS w B) w B 4 l v → B ≤ w.heap.size →
    Calls Tryz.prog 140 #[v] w fun e w' => e = .returned (.bool (yes (∀ z, z ∈ l → MayS z))) ∧ Ext w w'
def MayArmsOk (B : Nat) (l : List S) : Prop := ∀ (w : World) (v : Value), Sl (RS w B) w B 4 l v → B ≤ w.heap.size →
    Calls Tryz.prog 144 #[v] w fun e w' => e = .returned (.bool (yes (MayArms l))) ∧ Ext w w'
def MaySOk (B : Nat) (x : S) : Prop := ∀ (w : World) (cs : List Value), RS w B x cs → B ≤ w.heap.size →
    Calls Tryz.prog 142 #[.agg cs.toArray] w fun e w' => e = .returned (.bool (yes (MayS x))) ∧ Ext w w'
theorem opAt_eq (l : List S) (k : Nat) (h : k < l.length) : opAt l k = l[k].op := by
  unfold opAt; rw [List.getElem?_eq_getElem h]
theorem MayS_0 {x : S} (h1 : x.op ≠ 1) (h2 : x.op ≠ 2) (h3 : x.op ≠ 3) (h5 : x.op ≠ 5) (h6 : x.op ≠ 6) : MayS x ↔ (∀ y, y ∈ x.x → MayX y) ∧ (x.name.size = 0) ∧ False := by
  rw [MayS_iff]
  unfold MayXs MayAll
  simp [h1, h2, h3, h5, h6]
set_option maxRecDepth 20000 in
set_option maxHeartbeats 8000000 in
theorem refMayS_0 (B : Nat) (x : S) (hall : MayAllOk B x.l) (harms : MayArmsOk B x.l) (hvx : ∀ z, z ∈ x.x → VX z) (hts : x.name.size < 4294967281) (hsz : sizeS x ≤ 1000000000) (h1 : x.op ≠ 1) (h2 : x.op ≠ 2) (h3 : x.op ≠ 3) (h5 : x.op ≠ 5) (h6 : x.op ≠ 6) : MaySOk B x := by
  intro w cs hR hB
  obtain ⟨a2, a3, rfl, hS2, hS3⟩ := RS_iff.1 hR
  have hs0 : 1 + msize sizeX x.x + msize sizeS x.l ≤ 1000000000 := by rw [← sizeS_eq]; exact hsz
  have hmemx := hide (fun z (hz : z ∈ x.x) => msize_mem sizeX x.x z hz)
  have hlnx := length_le_msize sizeX x.x sizeX_pos
  have hlnl := length_le_msize sizeS x.l sizeS_pos
  rw [yes_congr (MayS_0 (x := x) h1 h2 h3 h5 h6)]
  have HALL := hide hall
  have HARMS := hide harms
  have HVX := hide hvx
  have HS2 := hide hS2
  have HS3 := hide hS3
  obtain ⟨sa, scap, rfl, hsc, hsr⟩ := hS2
  obtain ⟨sb, tcap, rfl, htc, hrow⟩ := hS3
  have HROW := hide hrow
  clear hR hsz hrow hall harms hvx hsc hsr htc
  generalize x.op = op at *
  have h1b : (op == 1) = false := beq_eq_false_iff_ne.2 h1
  have h2b : (op == 2) = false := beq_eq_false_iff_ne.2 h2
  have h3b : (op == 3) = false := beq_eq_false_iff_ne.2 h3
  have h5b : (op == 5) = false := beq_eq_false_iff_ne.2 h5
  have h6b : (op == 6) = false := beq_eq_false_iff_ne.2 h6
  generalize x.name = nm at *
  generalize x.x = fx at *
  generalize x.l = fl at *
  obtain ⟨r, hr⟩ : ∃ r, r = yes ((∀ y, y ∈ fx → MayX y) ∧ (nm.size = 0) ∧ False) := ⟨_, rfl⟩
  rw [← hr]
  have R := hide hr
  clear hr
  obtain ⟨W1, hW1, hx1, hb1⟩ := box4 w (.int .i64 op) (.string nm) (.slice sa fx.length scap) (.slice sb fl.length tcap) 140
  have hV1 := hW1.symm
  have HB1 := hide hb1
  have hb0 := hx1.size
  obtain ⟨c0, c1, c2, c3⟩ := HB1.out.get4
  clear hW1 hb1
  go_enter Tryz.func142, Tryz.ntmps142
  go_wp2_with fail
  refine (refmayL_of B fx (fun z hz w cs h1 h2 => refMayX_any B z w cs h1 h2 (by have := hmemx.out z hz; omega) (HVX.out z hz)) _ _ (HS2.out.extRX hx1 hB) (Nat.le_trans hB hx1.size) (by omega)).mono ?_
  rintro e w1 ⟨rfl, hz1⟩
  have hy1 := hx1.trans hz1
  have HB1 := hide (HB1.out.ext hz1)
  clear c0 c1 c2 c3
  obtain ⟨c0, c1, c2, c3⟩ := HB1.out.get4
  by_cases hq : ∀ y, y ∈ fx → MayX y
  · rw [yes_iff.2 hq]
    have qMX := hide hq
    clear hq
    by_cases h0 : nm.size = 0
    · have hem := empty_size h0
      have qNE := hide h0
      clear h0
      have hr : r = false := by rw [R.out]; exact yes_no.2 (fun m => m.2.2)
      subst hr
      go_wp2_with fail
      go_ret
      exact ⟨rfl, hy1⟩
    · have hem := full_size h0
      have h0i := hide h0
      clear h0
      have hr : r = false := by rw [R.out]; exact yes_no.2 (fun m => h0i.out m.2.1)
      subst hr
      go_wp2_with fail
      go_ret
      exact ⟨rfl, hy1⟩
  · rw [yes_no.2 hq]
    have nMX := hide hq
    clear hq
    have hr : r = false := by rw [R.out]; exact yes_no.2 (fun m => nMX.out m.1)
    subst hr
    go_wp2_with fail
    go_ret
    exact ⟨rfl, hy1⟩
end Go.Proofs.YtjoglnjpgkobeaaGreatDoor

/-
  THE CONTRACT OF THE REFERENCE's CHECKING OF A STATEMENT: kind 1.
-/
namespace Go.Proofs.YtjoglnjpgkobeaaGreatDoor
open Go Go.RowKit
set_option linter.all false
set_option linter.unusedVariables false
set_option linter.unusedSimpArgs false
set_option linter.unusedVariables false
set_option linter.unusedSimpArgs false
attribute [local go_sem] run_store_one
theorem MayS_1 {x : S} (hop : x.op = 1) : MayS x ↔ (∀ y, y ∈ x.x → MayX y) ∧ (x.name.size = 0) ∧ (x.x.length = 2) ∧ (isTargets x.x) ∧ (x.l.length = 0) := by
  rw [MayS_iff]
  unfold MayXs MayAll
  simp [hop]
set_option maxRecDepth 20000 in
set_option maxHeartbeats 8000000 in
theorem refMayS_1 (B : Nat) (x : S) (hall : MayAllOk B x.l) (harms : MayArmsOk B x.l) (hvx : ∀ z, z ∈ x.x → VX z) (hts : x.name.size < 4294967281) (hsz : sizeS x ≤ 1000000000) (hop : x.op = 1) : MaySOk B x := by
  intro w cs hR hB
  obtain ⟨a2, a3, rfl, hS2, hS3⟩ := RS_iff.1 hR
  have hs0 : 1 + msize sizeX x.x + msize sizeS x.l ≤ 1000000000 := by rw [← sizeS_eq]; exact hsz
  have hmemx := hide (fun z (hz : z ∈ x.x) => msize_mem sizeX x.x z hz)
  have hlnx := length_le_msize sizeX x.x sizeX_pos
  have hlnl := length_le_msize sizeS x.l sizeS_pos
  rw [yes_congr (MayS_1 (x := x) hop)]
  have HALL := hide hall
  have HARMS := hide harms
  have HVX := hide hvx
  have HS2 := hide hS2
  have HS3 := hide hS3
  obtain ⟨sa, scap, rfl, hsc, hsr⟩ := hS2
  obtain ⟨sb, tcap, rfl, htc, hrow⟩ := hS3
  have HROW := hide hrow
  clear hR hsz hrow hall harms hvx hsc hsr htc
  rw [hop]
  clear hop
  generalize x.name = nm at *
  generalize x.x = fx at *
  generalize x.l = fl at *
  obtain ⟨r, hr⟩ : ∃ r, r = yes ((∀ y, y ∈ fx → MayX y) ∧ (nm.size = 0) ∧ (fx.length = 2) ∧ (isTargets fx) ∧ (fl.length = 0)) := ⟨_, rfl⟩
  rw [← hr]
  have R := hide hr
  clear hr
  obtain ⟨W1, hW1, hx1, hb1⟩ := box4 w (.int .i64 1) (.string nm) (.slice sa fx.length scap) (.slice sb fl.length tcap) 140
  have hV1 := hW1.symm
  have HB1 := hide hb1
  have hb0 := hx1.size
  obtain ⟨c0, c1, c2, c3⟩ := HB1.out.get4
  clear hW1 hb1
  go_enter Tryz.func142, Tryz.ntmps142
  go_wp2_with fail
  refine (refmayL_of B fx (fun z hz w cs h1 h2 => refMayX_any B z w cs h1 h2 (by have := hmemx.out z hz; omega) (HVX.out z hz)) _ _ (HS2.out.extRX hx1 hB) (Nat.le_trans hB hx1.size) (by omega)).mono ?_
  rintro e w1 ⟨rfl, hz1⟩
  have hy1 := hx1.trans hz1
  have HB1 := hide (HB1.out.ext hz1)
  clear c0 c1 c2 c3
  obtain ⟨c0, c1, c2, c3⟩ := HB1.out.get4
  by_cases hq : ∀ y, y ∈ fx → MayX y
  · rw [yes_iff.2 hq]
    have qMX := hide hq
    clear hq
    by_cases h0 : nm.size = 0
    · have hem := empty_size h0
      have qNE := hide h0
      clear h0
      by_cases hX2 : fx.length = 2
      · have bX2 : ((fx.length : Int) == 2) = true := beq_iff_eq.2 (by omega)
        have qX2 := hide hX2
        clear hX2
        go_wp2_with fail
        refine (calls_still (reftarget_any B fx _ _ (HS2.out.extRX hy1 hB) (by omega))).mono ?_
        rintro e w2 ⟨rfl, hz2⟩
        have hy2 := hy1.trans hz2
        have HB1 := hide (HB1.out.ext hz2)
        clear c0 c1 c2 c3
        obtain ⟨c0, c1, c2, c3⟩ := HB1.out.get4
        by_cases hq : isTargets fx
        · rw [yes_iff.2 hq]
          have qTG := hide hq
          clear hq
          by_cases hL0 : fl.length = 0
          · have bL0 : ((fl.length : Int) == 0) = true := beq_iff_eq.2 (by omega)
            have qL0 := hide hL0
            clear hL0
            have hr : r = true := by rw [R.out]; exact yes_iff.2 ⟨qMX.out, qNE.out, qX2.out, qTG.out, qL0.out⟩
            subst hr
            go_wp2_with fail
            go_ret
            exact ⟨rfl, hy2⟩
          · have bL0 : ((fl.length : Int) == 0) = false := beq_eq_false_iff_ne.2 (by omega)
            have nL0 := hide hL0
            clear hL0
            have hr : r = false := by rw [R.out]; exact yes_no.2 (fun m => nL0.out m.2.2.2.2)
            subst hr
            go_wp2_with fail
            go_ret
            exact ⟨rfl, hy2⟩
        · rw [yes_no.2 hq]
          have nTG := hide hq
          clear hq
          have hr : r = false := by rw [R.out]; exact yes_no.2 (fun m => nTG.out m.2.2.2.1)
          subst hr
          go_wp2_with fail
          go_ret
          exact ⟨rfl, hy2⟩
      · have bX2 : ((fx.length : Int) == 2) = false := beq_eq_false_iff_ne.2 (by omega)
        have nX2 := hide hX2
        clear hX2
        have hr : r = false := by rw [R.out]; exact yes_no.2 (fun m => nX2.out m.2.2.1)
        subst hr
        go_wp2_with fail
        go_ret
        exact ⟨rfl, hy1⟩
    · have hem := full_size h0
      have h0i := hide h0
      clear h0
      have hr : r = false := by rw [R.out]; exact yes_no.2 (fun m => h0i.out m.2.1)
      subst hr
      go_wp2_with fail
      go_ret
      exact ⟨rfl, hy1⟩
  · rw [yes_no.2 hq]
    have nMX := hide hq
    clear hq
    have hr : r = false := by rw [R.out]; exact yes_no.2 (fun m => nMX.out m.1)
    subst hr
    go_wp2_with fail
    go_ret
    exact ⟨rfl, hy1⟩
end Go.Proofs.YtjoglnjpgkobeaaGreatDoor

/-
  THE CONTRACT OF THE REFERENCE's CHECKING OF A STATEMENT: kind 2.
-/
namespace Go.Proofs.YtjoglnjpgkobeaaGreatDoor
open Go Go.RowKit
set_option linter.all false
set_option linter.unusedVariables false
set_option linter.unusedSimpArgs false
set_option linter.unusedVariables false
set_option linter.unusedSimpArgs false
attribute [local go_sem] run_store_one
theorem MayS_2 {x : S} (hop : x.op = 2) : MayS x ↔ (∀ y, y ∈ x.x → MayX y) ∧ (x.name.size = 0) ∧ (x.x.length = 1) ∧ (x.l.length = 2) ∧ (opAt x.l 0 = 5) ∧ ((opAt x.l 1 = 5 ∨ opAt x.l 1 = 2)) ∧ (∀ y, y ∈ x.l → MayS y) := by
  rw [MayS_iff]
  unfold MayXs MayAll
  simp [hop]
set_option maxRecDepth 20000 in
set_option maxHeartbeats 8000000 in
theorem refMayS_2 (B : Nat) (x : S) (hall : MayAllOk B x.l) (harms : MayArmsOk B x.l) (hvx : ∀ z, z ∈ x.x → VX z) (hts : x.name.size < 4294967281) (hsz : sizeS x ≤ 1000000000) (hop : x.op = 2) : MaySOk B x := by
  intro w cs hR hB
  obtain ⟨a2, a3, rfl, hS2, hS3⟩ := RS_iff.1 hR
  have hs0 : 1 + msize sizeX x.x + msize sizeS x.l ≤ 1000000000 := by rw [← sizeS_eq]; exact hsz
  have hmemx := hide (fun z (hz : z ∈ x.x) => msize_mem sizeX x.x z hz)
  have hlnx := length_le_msize sizeX x.x sizeX_pos
  have hlnl := length_le_msize sizeS x.l sizeS_pos
  rw [yes_congr (MayS_2 (x := x) hop)]
  have HALL := hide hall
  have HARMS := hide harms
  have HVX := hide hvx
  have HS2 := hide hS2
  have HS3 := hide hS3
  obtain ⟨sa, scap, rfl, hsc, hsr⟩ := hS2
  obtain ⟨sb, tcap, rfl, htc, hrow⟩ := hS3
  have HROW := hide hrow
  clear hR hsz hrow hall harms hvx hsc hsr htc
  rw [hop]
  clear hop
  generalize x.name = nm at *
  generalize x.x = fx at *
  generalize x.l = fl at *
  obtain ⟨r, hr⟩ : ∃ r, r = yes ((∀ y, y ∈ fx → MayX y) ∧ (nm.size = 0) ∧ (fx.length = 1) ∧ (fl.length = 2) ∧ (opAt fl 0 = 5) ∧ ((opAt fl 1 = 5 ∨ opAt fl 1 = 2)) ∧ (∀ y, y ∈ fl → MayS y)) := ⟨_, rfl⟩
  rw [← hr]
  have R := hide hr
  clear hr
  obtain ⟨W1, hW1, hx1, hb1⟩ := box4 w (.int .i64 2) (.string nm) (.slice sa fx.length scap) (.slice sb fl.length tcap) 140
  have hV1 := hW1.symm
  have HB1 := hide hb1
  have hb0 := hx1.size
  obtain ⟨c0, c1, c2, c3⟩ := HB1.out.get4
  clear hW1 hb1
  go_enter Tryz.func142, Tryz.ntmps142
  go_wp2_with fail
  refine (refmayL_of B fx (fun z hz w cs h1 h2 => refMayX_any B z w cs h1 h2 (by have := hmemx.out z hz; omega) (HVX.out z hz)) _ _ (HS2.out.extRX hx1 hB) (Nat.le_trans hB hx1.size) (by omega)).mono ?_
  rintro e w1 ⟨rfl, hz1⟩
  have hy1 := hx1.trans hz1
  have HB1 := hide (HB1.out.ext hz1)
  clear c0 c1 c2 c3
  obtain ⟨c0, c1, c2, c3⟩ := HB1.out.get4
  by_cases hq : ∀ y, y ∈ fx → MayX y
  · rw [yes_iff.2 hq]
    have qMX := hide hq
    clear hq
    by_cases h0 : nm.size = 0
    · have hem := empty_size h0
      have qNE := hide h0
      clear h0
      by_cases hX1 : fx.length = 1
      · have bX1 : ((fx.length : Int) == 1) = true := beq_iff_eq.2 (by omega)
        have qX1 := hide hX1
        clear hX1
        by_cases hL2 : fl.length = 2
        · have bL2 : ((fl.length : Int) == 2) = true := beq_iff_eq.2 (by omega)
          have qL2 := hide hL2
          clear hL2
          have hl0 : 0 < fl.length := by rw [qL2.out]; decide
          have hl1 : 1 < fl.length := by rw [qL2.out]; decide
          have hp0 : (0 : Int) < fl.length := by omega
          have hp1 : (1 : Int) < fl.length := by omega
          obtain ⟨b, o, v0, v1, v2, v3, rfl, hbB, hRa, hCa, o0, o1, o2, o3⟩ := HROW.out.open4 hl0
          obtain ⟨b', o', u0, u1, u2, u3, hsb, hbB', hRb, hCb, p0, p1, p2, p3⟩ := HROW.out.open4 hl1
          cases hsb
          obtain ⟨e2, e3, hEq, -, -⟩ := RS_iff.1 hRa
          cases hEq
          obtain ⟨e4, e5, hEq', -, -⟩ := RS_iff.1 hRb
          cases hEq'
          obtain ⟨i0, i1, i2, i3⟩ := (hCa.ext hy1).get4
          obtain ⟨j0, j1, j2, j3⟩ := (hCb.ext hy1).get4
          simp only [Nat.zero_mul, Nat.add_zero, Nat.one_mul] at i0 i1 i2 i3 j0 j1 j2 j3
          have ha0 := opAt_eq fl 0 hl0
          have ha1 := opAt_eq fl 1 hl1
          rw [← ha0] at i0
          rw [← ha1] at j0
          clear hRa hRb hCa hCb ha0 ha1 i1 i2 i3 j1 j2 j3
          by_cases hA : opAt fl 0 = 5
          · have bA : (opAt fl 0 == 5) = true := beq_iff_eq.2 hA
            have qA5 := hide hA
            clear hA
            by_cases hB5 : opAt fl 1 = 5
            · have bB : (opAt fl 1 == 5) = true := beq_iff_eq.2 hB5
              have qB52 := hide (show opAt fl 1 = 5 ∨ opAt fl 1 = 2 from .inl hB5)
              clear hB5
              go_wp2_with fail
              refine (HALL.out _ _ (HS3.out.extRS hy1 hB) (Nat.le_trans hB hy1.size)).mono ?_
              rintro e w2 ⟨rfl, hz2⟩
              have hy2 := hy1.trans hz2
              have HB1 := hide (HB1.out.ext hz2)
              clear c0 c1 c2 c3
              obtain ⟨c0, c1, c2, c3⟩ := HB1.out.get4
              by_cases hq : ∀ y, y ∈ fl → MayS y
              · rw [yes_iff.2 hq]
                have qALL := hide hq
                clear hq
                have hr : r = true := by rw [R.out]; exact yes_iff.2 ⟨qMX.out, qNE.out, qX1.out, qL2.out, qA5.out, qB52.out, qALL.out⟩
                subst hr
                go_wp2_with fail
                go_ret
                exact ⟨rfl, hy2⟩
              · rw [yes_no.2 hq]
                have nALL := hide hq
                clear hq
                have hr : r = false := by rw [R.out]; exact yes_no.2 (fun m => nALL.out m.2.2.2.2.2.2)
                subst hr
                go_wp2_with fail
                go_ret
                exact ⟨rfl, hy2⟩
            · have bB : (opAt fl 1 == 5) = false := beq_eq_false_iff_ne.2 hB5
              by_cases hB2 : opAt fl 1 = 2
              · have bB2 : (opAt fl 1 == 2) = true := beq_iff_eq.2 hB2
                have qB52 := hide (show opAt fl 1 = 5 ∨ opAt fl 1 = 2 from .inr hB2)
                clear hB2 hB5
                go_wp2_with fail
                refine (HALL.out _ _ (HS3.out.extRS hy1 hB) (Nat.le_trans hB hy1.size)).mono ?_
                rintro e w2 ⟨rfl, hz2⟩
                have hy2 := hy1.trans hz2
                have HB1 := hide (HB1.out.ext hz2)
                clear c0 c1 c2 c3
                obtain ⟨c0, c1, c2, c3⟩ := HB1.out.get4
                by_cases hq : ∀ y, y ∈ fl → MayS y
                · rw [yes_iff.2 hq]
                  have qALL := hide hq
                  clear hq
                  have hr : r = true := by rw [R.out]; exact yes_iff.2 ⟨qMX.out, qNE.out, qX1.out, qL2.out, qA5.out, qB52.out, qALL.out⟩
                  subst hr
                  go_wp2_with fail
                  go_ret
                  exact ⟨rfl, hy2⟩
                · rw [yes_no.2 hq]
                  have nALL := hide hq
                  clear hq
                  have hr : r = false := by rw [R.out]; exact yes_no.2 (fun m => nALL.out m.2.2.2.2.2.2)
                  subst hr
                  go_wp2_with fail
                  go_ret
                  exact ⟨rfl, hy2⟩
              · have bB2 : (opAt fl 1 == 2) = false := beq_eq_false_iff_ne.2 hB2
                have nB := hide (show ¬ (opAt fl 1 = 5 ∨ opAt fl 1 = 2) from fun h => h.elim hB5 hB2)
                clear hB2 hB5
                have hr : r = false := by rw [R.out]; exact yes_no.2 (fun m => nB.out m.2.2.2.2.2.1)
                subst hr
                go_wp2_with fail
                go_ret
                exact ⟨rfl, hy1⟩
          · have bA : (opAt fl 0 == 5) = false := beq_eq_false_iff_ne.2 hA
            have nA := hide hA
            clear hA
            have hr : r = false := by rw [R.out]; exact yes_no.2 (fun m => nA.out m.2.2.2.2.1)
            subst hr
            go_wp2_with fail
            go_ret
            exact ⟨rfl, hy1⟩
        · have bL2 : ((fl.length : Int) == 2) = false := beq_eq_false_iff_ne.2 (by omega)
          have nL2 := hide hL2
          clear hL2
          have hr : r = false := by rw [R.out]; exact yes_no.2 (fun m => nL2.out m.2.2.2.1)
          subst hr
          go_wp2_with fail
          go_ret
          exact ⟨rfl, hy1⟩
      · have bX1 : ((fx.length : Int) == 1) = false := beq_eq_false_iff_ne.2 (by omega)
        have nX1 := hide hX1
        clear hX1
        have hr : r = false := by rw [R.out]; exact yes_no.2 (fun m => nX1.out m.2.2.1)
        subst hr
        go_wp2_with fail
        go_ret
        exact ⟨rfl, hy1⟩
    · have hem := full_size h0
      have h0i := hide h0
      clear h0
      have hr : r = false := by rw [R.out]; exact yes_no.2 (fun m => h0i.out m.2.1)
      subst hr
      go_wp2_with fail
      go_ret
      exact ⟨rfl, hy1⟩
  · rw [yes_no.2 hq]
    have nMX := hide hq
    clear hq
    have hr : r = false := by rw [R.out]; exact yes_no.2 (fun m => nMX.out m.1)
    subst hr
    go_wp2_with fail
    go_ret
    exact ⟨rfl, hy1⟩
end Go.Proofs.YtjoglnjpgkobeaaGreatDoor

/-
  THE CONTRACT OF THE REFERENCE's CHECKING OF A STATEMENT: kind 3.
-/
namespace Go.Proofs.YtjoglnjpgkobeaaGreatDoor
open Go Go.RowKit
set_option linter.all false
set_option linter.unusedVariables false
set_option linter.unusedSimpArgs false
set_option linter.unusedVariables false
set_option linter.unusedSimpArgs false
attribute [local go_sem] run_store_one
theorem MayS_3 {x : S} (hop : x.op = 3) : MayS x ↔ (∀ y, y ∈ x.x → MayX y) ∧ (x.name.size = 0) ∧ (x.x.length = 1) ∧ (MayArms x.l) := by
  rw [MayS_iff]
  unfold MayXs MayAll
  simp [hop]
set_option maxRecDepth 20000 in
set_option maxHeartbeats 8000000 in
theorem refMayS_3 (B : Nat) (x : S) (hall : MayAllOk B x.l) (harms : MayArmsOk B x.l) (hvx : ∀ z, z ∈ x.x → VX z) (hts : x.name.size < 4294967281) (hsz : sizeS x ≤ 1000000000) (hop : x.op = 3) : MaySOk B x := by
  intro w cs hR hB
  obtain ⟨a2, a3, rfl, hS2, hS3⟩ := RS_iff.1 hR
  have hs0 : 1 + msize sizeX x.x + msize sizeS x.l ≤ 1000000000 := by rw [← sizeS_eq]; exact hsz
  have hmemx := hide (fun z (hz : z ∈ x.x) => msize_mem sizeX x.x z hz)
  have hlnx := length_le_msize sizeX x.x sizeX_pos
  have hlnl := length_le_msize sizeS x.l sizeS_pos
  rw [yes_congr (MayS_3 (x := x) hop)]
  have HALL := hide hall
  have HARMS := hide harms
  have HVX := hide hvx
  have HS2 := hide hS2
  have HS3 := hide hS3
  obtain ⟨sa, scap, rfl, hsc, hsr⟩ := hS2
  obtain ⟨sb, tcap, rfl, htc, hrow⟩ := hS3
  have HROW := hide hrow
  clear hR hsz hrow hall harms hvx hsc hsr htc
  rw [hop]
  clear hop
  generalize x.name = nm at *
  generalize x.x = fx at *
  generalize x.l = fl at *
  obtain ⟨r, hr⟩ : ∃ r, r = yes ((∀ y, y ∈ fx → MayX y) ∧ (nm.size = 0) ∧ (fx.length = 1) ∧ (MayArms fl)) := ⟨_, rfl⟩
  rw [← hr]
  have R := hide hr
  clear hr
  obtain ⟨W1, hW1, hx1, hb1⟩ := box4 w (.int .i64 3) (.string nm) (.slice sa fx.length scap) (.slice sb fl.length tcap) 140
  have hV1 := hW1.symm
  have HB1 := hide hb1
  have hb0 := hx1.size
  obtain ⟨c0, c1, c2, c3⟩ := HB1.out.get4
  clear hW1 hb1
  go_enter Tryz.func142, Tryz.ntmps142
  go_wp2_with fail
  refine (refmayL_of B fx (fun z hz w cs h1 h2 => refMayX_any B z w cs h1 h2 (by have := hmemx.out z hz; omega) (HVX.out z hz)) _ _ (HS2.out.extRX hx1 hB) (Nat.le_trans hB hx1.size) (by omega)).mono ?_
  rintro e w1 ⟨rfl, hz1⟩
  have hy1 := hx1.trans hz1
  have HB1 := hide (HB1.out.ext hz1)
  clear c0 c1 c2 c3
  obtain ⟨c0, c1, c2, c3⟩ := HB1.out.get4
  by_cases hq : ∀ y, y ∈ fx → MayX y
  · rw [yes_iff.2 hq]
    have qMX := hide hq
    clear hq
    by_cases h0 : nm.size = 0
    · have hem := empty_size h0
      have qNE := hide h0
      clear h0
      by_cases hX1 : fx.length = 1
      · have bX1 : ((fx.length : Int) == 1) = true := beq_iff_eq.2 (by omega)
        have qX1 := hide hX1
        clear hX1
        go_wp2_with fail
        refine (HARMS.out _ _ (HS3.out.extRS hy1 hB) (Nat.le_trans hB hy1.size)).mono ?_
        rintro e w2 ⟨rfl, hz2⟩
        have hy2 := hy1.trans hz2
        have HB1 := hide (HB1.out.ext hz2)
        clear c0 c1 c2 c3
        obtain ⟨c0, c1, c2, c3⟩ := HB1.out.get4
        by_cases hq : MayArms fl
        · rw [yes_iff.2 hq]
          have qARMS := hide hq
          clear hq
          have hr : r = true := by rw [R.out]; exact yes_iff.2 ⟨qMX.out, qNE.out, qX1.out, qARMS.out⟩
          subst hr
          go_wp2_with fail
          go_ret
          exact ⟨rfl, hy2⟩
        · rw [yes_no.2 hq]
          have nARMS := hide hq
          clear hq
          have hr : r = false := by rw [R.out]; exact yes_no.2 (fun m => nARMS.out m.2.2.2)
          subst hr
          go_wp2_with fail
          go_ret
          exact ⟨rfl, hy2⟩
      · have bX1 : ((fx.length : Int) == 1) = false := beq_eq_false_iff_ne.2 (by omega)
        have nX1 := hide hX1
        clear hX1
        have hr : r = false := by rw [R.out]; exact yes_no.2 (fun m => nX1.out m.2.2.1)
        subst hr
        go_wp2_with fail
        go_ret
        exact ⟨rfl, hy1⟩
    · have hem := full_size h0
      have h0i := hide h0
      clear h0
      have hr : r = false := by rw [R.out]; exact yes_no.2 (fun m => h0i.out m.2.1)
      subst hr
      go_wp2_with fail
      go_ret
      exact ⟨rfl, hy1⟩
  · rw [yes_no.2 hq]
    have nMX := hide hq
    clear hq
    have hr : r = false := by rw [R.out]; exact yes_no.2 (fun m => nMX.out m.1)
    subst hr
    go_wp2_with fail
    go_ret
    exact ⟨rfl, hy1⟩
end Go.Proofs.YtjoglnjpgkobeaaGreatDoor

/-
  THE CONTRACTS OF THE REFERENCE's TOLD AND CheckX.
-/
namespace Go.Proofs.YtjoglnjpgkobeaaGreatDoor
open Go Go.RowKit
set_option linter.all false
set_option linter.unusedVariables false
set_option linter.unusedSimpArgs false
set_option linter.unusedVariables false
set_option linter.unusedSimpArgs false
attribute [local go_sem] run_store_one
/-- What a size, a depth, and whether it may be, tell. -/
def told (n d : Nat) (b : Bool) : Int := if 65536 < n ∨ 64 < d then 2 else if b then 0 else 1
end Go.Proofs.YtjoglnjpgkobeaaGreatDoor

/-
  THE CONTRACT OF THE REFERENCE's CHECKING OF A STATEMENT: kind 5.
-/
namespace Go.Proofs.YtjoglnjpgkobeaaGreatDoor
open Go Go.RowKit
set_option linter.all false
set_option linter.unusedVariables false
set_option linter.unusedSimpArgs false
set_option linter.unusedVariables false
set_option linter.unusedSimpArgs false
attribute [local go_sem] run_store_one
theorem MayS_5 {x : S} (hop : x.op = 5) : MayS x ↔ (∀ y, y ∈ x.x → MayX y) ∧ (x.name.size = 0) ∧ (x.x.length = 0) ∧ (∀ y, y ∈ x.l → MayS y) := by
  rw [MayS_iff]
  unfold MayXs MayAll
  simp [hop]
set_option maxRecDepth 20000 in
set_option maxHeartbeats 8000000 in
theorem refMayS_5 (B : Nat) (x : S) (hall : MayAllOk B x.l) (harms : MayArmsOk B x.l) (hvx : ∀ z, z ∈ x.x → VX z) (hts : x.name.size < 4294967281) (hsz : sizeS x ≤ 1000000000) (hop : x.op = 5) : MaySOk B x := by
  intro w cs hR hB
  obtain ⟨a2, a3, rfl, hS2, hS3⟩ := RS_iff.1 hR
  have hs0 : 1 + msize sizeX x.x + msize sizeS x.l ≤ 1000000000 := by rw [← sizeS_eq]; exact hsz
  have hmemx := hide (fun z (hz : z ∈ x.x) => msize_mem sizeX x.x z hz)
  have hlnx := length_le_msize sizeX x.x sizeX_pos
  have hlnl := length_le_msize sizeS x.l sizeS_pos
  rw [yes_congr (MayS_5 (x := x) hop)]
  have HALL := hide hall
  have HARMS := hide harms
  have HVX := hide hvx
  have HS2 := hide hS2
  have HS3 := hide hS3
  obtain ⟨sa, scap, rfl, hsc, hsr⟩ := hS2
  obtain ⟨sb, tcap, rfl, htc, hrow⟩ := hS3
  have HROW := hide hrow
  clear hR hsz hrow hall harms hvx hsc hsr htc
  rw [hop]
  clear hop
  generalize x.name = nm at *
  generalize x.x = fx at *
  generalize x.l = fl at *
  obtain ⟨r, hr⟩ : ∃ r, r = yes ((∀ y, y ∈ fx → MayX y) ∧ (nm.size = 0) ∧ (fx.length = 0) ∧ (∀ y, y ∈ fl → MayS y)) := ⟨_, rfl⟩
  rw [← hr]
  have R := hide hr
  clear hr
  obtain ⟨W1, hW1, hx1, hb1⟩ := box4 w (.int .i64 5) (.string nm) (.slice sa fx.length scap) (.slice sb fl.length tcap) 140
  have hV1 := hW1.symm
  have HB1 := hide hb1
  have hb0 := hx1.size
  obtain ⟨c0, c1, c2, c3⟩ := HB1.out.get4
  clear hW1 hb1
  go_enter Tryz.func142, Tryz.ntmps142
  go_wp2_with fail
  refine (refmayL_of B fx (fun z hz w cs h1 h2 => refMayX_any B z w cs h1 h2 (by have := hmemx.out z hz; omega) (HVX.out z hz)) _ _ (HS2.out.extRX hx1 hB) (Nat.le_trans hB hx1.size) (by omega)).mono ?_
  rintro e w1 ⟨rfl, hz1⟩
  have hy1 := hx1.trans hz1
  have HB1 := hide (HB1.out.ext hz1)
  clear c0 c1 c2 c3
  obtain ⟨c0, c1, c2, c3⟩ := HB1.out.get4
  by_cases hq : ∀ y, y ∈ fx → MayX y
  · rw [yes_iff.2 hq]
    have qMX := hide hq
    clear hq
    by_cases h0 : nm.size = 0
    · have hem := empty_size h0
      have qNE := hide h0
      clear h0
      by_cases hX0 : fx.length = 0
      · have bX0 : ((fx.length : Int) == 0) = true := beq_iff_eq.2 (by omega)
        have qX0 := hide hX0
        clear hX0
        go_wp2_with fail
        refine (HALL.out _ _ (HS3.out.extRS hy1 hB) (Nat.le_trans hB hy1.size)).mono ?_
        rintro e w2 ⟨rfl, hz2⟩
        have hy2 := hy1.trans hz2
        have HB1 := hide (HB1.out.ext hz2)
        clear c0 c1 c2 c3
        obtain ⟨c0, c1, c2, c3⟩ := HB1.out.get4
        by_cases hq : ∀ y, y ∈ fl → MayS y
        · rw [yes_iff.2 hq]
          have qALL := hide hq
          clear hq
          have hr : r = true := by rw [R.out]; exact yes_iff.2 ⟨qMX.out, qNE.out, qX0.out, qALL.out⟩
          subst hr
          go_wp2_with fail
          go_ret
          exact ⟨rfl, hy2⟩
        · rw [yes_no.2 hq]
          have nALL := hide hq
          clear hq
          have hr : r = false := by rw [R.out]; exact yes_no.2 (fun m => nALL.out m.2.2.2)
          subst hr
          go_wp2_with fail
          go_ret
          exact ⟨rfl, hy2⟩
      · have bX0 : ((fx.length : Int) == 0) = false := beq_eq_false_iff_ne.2 (by omega)
        have nX0 := hide hX0
        clear hX0
        have hr : r = false := by rw [R.out]; exact yes_no.2 (fun m => nX0.out m.2.2.1)
        subst hr
        go_wp2_with fail
        go_ret
        exact ⟨rfl, hy1⟩
    · have hem := full_size h0
      have h0i := hide h0
      clear h0
      have hr : r = false := by rw [R.out]; exact yes_no.2 (fun m => h0i.out m.2.1)
      subst hr
      go_wp2_with fail
      go_ret
      exact ⟨rfl, hy1⟩
  · rw [yes_no.2 hq]
    have nMX := hide hq
    clear hq
    have hr : r = false := by rw [R.out]; exact yes_no.2 (fun m => nMX.out m.1)
    subst hr
    go_wp2_with fail
    go_ret
    exact ⟨rfl, hy1⟩
end Go.Proofs.YtjoglnjpgkobeaaGreatDoor

/-
  THE CONTRACT OF THE REFERENCE's CHECKING OF A STATEMENT: kind 6.
-/
namespace Go.Proofs.YtjoglnjpgkobeaaGreatDoor
open Go Go.RowKit
set_option linter.all false
set_option linter.unusedVariables false
set_option linter.unusedSimpArgs false
set_option linter.unusedVariables false
set_option linter.unusedSimpArgs false
attribute [local go_sem] run_store_one
theorem MayS_6 {x : S} (hop : x.op = 6) : MayS x ↔ (∀ y, y ∈ x.x → MayX y) ∧ (nameP x.name) ∧ (x.x.length = 2) ∧ (∀ y, y ∈ x.l → MayS y) := by
  rw [MayS_iff]
  unfold MayXs MayAll
  simp [hop]
set_option maxRecDepth 20000 in
set_option maxHeartbeats 8000000 in
theorem refMayS_6 (B : Nat) (x : S) (hall : MayAllOk B x.l) (harms : MayArmsOk B x.l) (hvx : ∀ z, z ∈ x.x → VX z) (hts : x.name.size < 4294967281) (hsz : sizeS x ≤ 1000000000) (hop : x.op = 6) : MaySOk B x := by
  intro w cs hR hB
  obtain ⟨a2, a3, rfl, hS2, hS3⟩ := RS_iff.1 hR
  have hs0 : 1 + msize sizeX x.x + msize sizeS x.l ≤ 1000000000 := by rw [← sizeS_eq]; exact hsz
  have hmemx := hide (fun z (hz : z ∈ x.x) => msize_mem sizeX x.x z hz)
  have hlnx := length_le_msize sizeX x.x sizeX_pos
  have hlnl := length_le_msize sizeS x.l sizeS_pos
  rw [yes_congr (MayS_6 (x := x) hop)]
  have HALL := hide hall
  have HARMS := hide harms
  have HVX := hide hvx
  have HS2 := hide hS2
  have HS3 := hide hS3
  obtain ⟨sa, scap, rfl, hsc, hsr⟩ := hS2
  obtain ⟨sb, tcap, rfl, htc, hrow⟩ := hS3
  have HROW := hide hrow
  clear hR hsz hrow hall harms hvx hsc hsr htc
  rw [hop]
  clear hop
  generalize x.name = nm at *
  generalize x.x = fx at *
  generalize x.l = fl at *
  obtain ⟨r, hr⟩ : ∃ r, r = yes ((∀ y, y ∈ fx → MayX y) ∧ (nameP nm) ∧ (fx.length = 2) ∧ (∀ y, y ∈ fl → MayS y)) := ⟨_, rfl⟩
  rw [← hr]
  have R := hide hr
  clear hr
  obtain ⟨W1, hW1, hx1, hb1⟩ := box4 w (.int .i64 6) (.string nm) (.slice sa fx.length scap) (.slice sb fl.length tcap) 140
  have hV1 := hW1.symm
  have HB1 := hide hb1
  have hb0 := hx1.size
  obtain ⟨c0, c1, c2, c3⟩ := HB1.out.get4
  clear hW1 hb1
  go_enter Tryz.func142, Tryz.ntmps142
  go_wp2_with fail
  refine (refmayL_of B fx (fun z hz w cs h1 h2 => refMayX_any B z w cs h1 h2 (by have := hmemx.out z hz; omega) (HVX.out z hz)) _ _ (HS2.out.extRX hx1 hB) (Nat.le_trans hB hx1.size) (by omega)).mono ?_
  rintro e w1 ⟨rfl, hz1⟩
  have hy1 := hx1.trans hz1
  have HB1 := hide (HB1.out.ext hz1)
  clear c0 c1 c2 c3
  obtain ⟨c0, c1, c2, c3⟩ := HB1.out.get4
  by_cases hq : ∀ y, y ∈ fx → MayX y
  · rw [yes_iff.2 hq]
    have qMX := hide hq
    clear hq
    by_cases h0 : nm.size = 0
    · have hem := empty_size h0
      have h0i := hide h0
      clear h0
      have hr : r = false := by rw [R.out]; exact yes_no.2 (fun m => (fun (hn : nameP nm) => by have := hn.1; have := h0i.out; omega) m.2.1)
      subst hr
      go_wp2_with fail
      go_ret
      exact ⟨rfl, hy1⟩
    · have hem := full_size h0
      clear h0
      go_wp2_with fail
      refine (refName_any nm _ hts).mono ?_
      rintro e w2 ⟨rfl, hz2⟩
      have hy2 := hy1.trans hz2
      have HB1 := hide (HB1.out.ext hz2)
      clear c0 c1 c2 c3
      obtain ⟨c0, c1, c2, c3⟩ := HB1.out.get4
      by_cases hq : nameP nm
      · rw [nameOk_iff.2 hq]
        have qNM := hide hq
        clear hq
        by_cases hX2 : fx.length = 2
        · have bX2 : ((fx.length : Int) == 2) = true := beq_iff_eq.2 (by omega)
          have qX2 := hide hX2
          clear hX2
          go_wp2_with fail
          refine (HALL.out _ _ (HS3.out.extRS hy2 hB) (Nat.le_trans hB hy2.size)).mono ?_
          rintro e w3 ⟨rfl, hz3⟩
          have hy3 := hy2.trans hz3
          have HB1 := hide (HB1.out.ext hz3)
          clear c0 c1 c2 c3
          obtain ⟨c0, c1, c2, c3⟩ := HB1.out.get4
          by_cases hq : ∀ y, y ∈ fl → MayS y
          · rw [yes_iff.2 hq]
            have qALL := hide hq
            clear hq
            have hr : r = true := by rw [R.out]; exact yes_iff.2 ⟨qMX.out, qNM.out, qX2.out, qALL.out⟩
            subst hr
            go_wp2_with fail
            go_ret
            exact ⟨rfl, hy3⟩
          · rw [yes_no.2 hq]
            have nALL := hide hq
            clear hq
            have hr : r = false := by rw [R.out]; exact yes_no.2 (fun m => nALL.out m.2.2.2)
            subst hr
            go_wp2_with fail
            go_ret
            exact ⟨rfl, hy3⟩
        · have bX2 : ((fx.length : Int) == 2) = false := beq_eq_false_iff_ne.2 (by omega)
          have nX2 := hide hX2
          clear hX2
          have hr : r = false := by rw [R.out]; exact yes_no.2 (fun m => nX2.out m.2.2.1)
          subst hr
          go_wp2_with fail
          go_ret
          exact ⟨rfl, hy2⟩
      · rw [nameOk_no hq]
        have nNM := hide hq
        clear hq
        have hr : r = false := by rw [R.out]; exact yes_no.2 (fun m => nNM.out m.2.1)
        subst hr
        go_wp2_with fail
        go_ret
        exact ⟨rfl, hy2⟩
  · rw [yes_no.2 hq]
    have nMX := hide hq
    clear hq
    have hr : r = false := by rw [R.out]; exact yes_no.2 (fun m => nMX.out m.1)
    subst hr
    go_wp2_with fail
    go_ret
    exact ⟨rfl, hy1⟩
end Go.Proofs.YtjoglnjpgkobeaaGreatDoor

/-
  THE CONTRACT OF THE REFERENCE's CHECKING OF A STATEMENT: all kinds.
-/
namespace Go.Proofs.YtjoglnjpgkobeaaGreatDoor
open Go Go.RowKit
set_option linter.all false
set_option linter.unusedVariables false
set_option linter.unusedSimpArgs false
set_option linter.unusedVariables false
set_option linter.unusedSimpArgs false
theorem refMayS_both (B : Nat) (x : S) : VS x → sizeS x ≤ 1000000000 → MaySOk B x ∧ MayAllOk B x.l := by
  induction x using S.ind with
  | h x ih =>
    intro hv hsz
    obtain ⟨hts, hvx, hvl⟩ := VS_iff.1 hv
    have hs0 : 1 + msize sizeX x.x + msize sizeS x.l ≤ 1000000000 := by rw [← sizeS_eq]; exact hsz
    have hln := length_le_msize sizeS x.l sizeS_pos
    have hone : ∀ y, y ∈ x.l → MaySOk B y ∧ MayAllOk B y.l := fun y hy => ih y hy (hvl y hy) (by have := msize_mem sizeS x.l y hy; omega)
    have hall : MayAllOk B x.l := fun w v hS hB => refMayAll_of B x.l (fun y hy w cs h1 h2 => (hone y hy).1 w cs h1 h2) w v hS hB (by omega)
    have harms : MayArmsOk B x.l := fun w v hS hB => refarms_of B x.l (fun y hy w v h1 h2 => (hone y hy).2 w v h1 h2) (fun y hy => (VS_iff.1 (hvl y hy)).2.1) w v hS hB (by omega)
      (fun y hy => (VS_iff.1 (hvl y hy)).1)
    refine ⟨?_, hall⟩
    by_cases h1 : x.op = 1
    · exact refMayS_1 B x hall harms hvx hts hsz h1
    by_cases h2 : x.op = 2
    · exact refMayS_2 B x hall harms hvx hts hsz h2
    by_cases h3 : x.op = 3
    · exact refMayS_3 B x hall harms hvx hts hsz h3
    by_cases h5 : x.op = 5
    · exact refMayS_5 B x hall harms hvx hts hsz h5
    by_cases h6 : x.op = 6
    · exact refMayS_6 B x hall harms hvx hts hsz h6
    exact refMayS_0 B x hall harms hvx hts hsz h1 h2 h3 h5 h6
theorem refMayS_any (B : Nat) (x : S) (hv : VS x) (hsz : sizeS x ≤ 1000000000) : MaySOk B x := (refMayS_both B x hv hsz).1
theorem refMayAll_any (B : Nat) (l : List S) (hv : ∀ x, x ∈ l → VS x) (hsz : msize sizeS l ≤ 1000000000) : MayAllOk B l :=
  fun w v hS hB => refMayAll_of B l (fun y hy w cs h1 h2 => refMayS_any B y (hv y hy) (by have := msize_mem sizeS l y hy; omega) w cs h1 h2) w v hS hB (by have := length_le_msize sizeS l sizeS_pos; omega)
end Go.Proofs.YtjoglnjpgkobeaaGreatDoor

/-
  THE CONTRACTS OF THE REFERENCE's CheckS.
-/
namespace Go.Proofs.YtjoglnjpgkobeaaGreatDoor
open Go Go.RowKit
set_option linter.all false
set_option linter.unusedVariables false
set_option linter.unusedSimpArgs false
set_option linter.unusedVariables false
set_option linter.unusedSimpArgs false
attribute [local go_sem] run_store_one
/-- A list of one, in a row of its own. -/
theorem Sl.one {α : Type} {R : α → List Value → Prop} {w : World} {B sz g : Nat} {x : α} {cs : List Value} (hb : g < B) (hl : cs.length = sz) (hc : Cells w g 0 cs) (ho : ∀ v, v ∈ cs → v.oneCell' = true) (hr : R x cs) :
    Sl R w B sz [x] (.slice (some ⟨g, 0, none⟩) 1 1) := by
  refine ⟨_, 1, rfl, Nat.le_refl _, fun k hk => ?_⟩
  obtain rfl : k = 0 := by simp at hk; omega
  exact ⟨g, 0, cs, rfl, hb, hl, by simpa using hc, ho, hr⟩
end Go.Proofs.YtjoglnjpgkobeaaGreatDoor

/-
  THE DOCUMENT's ANSWER OF CHAPTER 03: binds; only.
-/
namespace Go.Proofs.YtjoglnjpgkobeaaGreatDoor
open Go Go.RowKit
set_option linter.all false
set_option linter.unusedVariables false
set_option linter.unusedSimpArgs false
set_option linter.unusedVariables false
set_option linter.unusedSimpArgs false
attribute [local go_sem] run_store_one
set_option maxRecDepth 20000 in
set_option maxHeartbeats 2000000 in
theorem refbinds_any (B : Nat) (l : List Bnd) (w : World) (v : Value) (hS : Sl (RB w B) w B 7 l v) (hB : B ≤ w.heap.size) (hv : ∀ y, y ∈ l → VB y) (hsz : msize sizeB l ≤ 100000000) :
    Calls Tryz.prog 114 #[v] w fun e w' => e = .returned (.bool (yes (∀ y, y ∈ l → MayB y))) ∧ Ext w w' := by
  have hln := length_le_msize sizeB l sizeB_pos
  have HV := hide hv
  obtain ⟨a, cap, rfl, hcap, hrow⟩ := hS
  have HROW := hide hrow
  clear hv hcap hrow
  go_enter Tryz.func114, Tryz.ntmps114
  go_wp2_with fail
  go_loopw [3] (fun i wr => ∃ k : Nat, k ≤ l.length ∧ i = .int .i64 k ∧ (∀ j, ∀ h : j < l.length, j < k → MayB l[j]) ∧ Ext w wr) (fun i _ => l.length - (intOf i).toNat)
  case atStart => exact ⟨0, Nat.zero_le _, rfl, fun j h hj => absurd hj (by omega), Ext.refl _⟩
  case round =>
    obtain ⟨k, hk, rfl, hpre, hx⟩ := hrel
    have HP := hide hpre
    clear hpre
    by_cases hlt : k < l.length
    · have hs2 := msize_mem sizeB l l[k] (List.getElem_mem hlt)
      have hvk := HV.out _ (List.getElem_mem hlt)
      have HNEXT := hide (show MayB l[k] → ∀ j, ∀ h : j < l.length, j < k + 1 → MayB l[j] from fun hin j h hj => if e : j = k then by subst e; exact hin else HP.out j h (by omega))
      have HFALSE := hide (show ¬ MayB l[k] → yes (∀ y, y ∈ l → MayB y) = false from fun hin => yes_no.2 fun h => hin (h _ (List.getElem_mem hlt)))
      obtain ⟨b, o, u0, u1, u2, u3, u4, u5, u6, rfl, hbB, hE, hC, oc0, oc1, oc2, oc3, oc4, oc5, oc6⟩ := HROW.out.open7 hlt
      generalize l[k] = y at *
      obtain ⟨rfl, hX⟩ := RB_iff.1 hE
      obtain ⟨d0, d1, d2, d3, d4, d5, d6⟩ := (hC.ext hx).get7
      have HC := hide (hC.ext hx)
      have hsb : sizeX y.x ≤ 1000000000 := by
        have : sizeB y = 1 + sizeX y.x := rfl
        omega
      have KN := hide (refName_any y.name wr hvk.1)
      have KX := hide (fun (w' : World) (hw : Ext wr w') => refMayX_any B y.x w' [u1, u2, u3, u4, u5, u6] (hX.ext (hx.trans hw) hB) (Nat.le_trans hB (hx.trans hw).size) hsb hvk.2)
      have HX := hide hx
      clear hE hC hX hx hvk
      by_cases hn : nameP y.name
      · rw [nameOk_iff.2 hn] at KN
        go_wp2_with fail
        go_at_call 112
        refine KN.out.mono ?_
        rintro _ w1 ⟨rfl, hx1⟩
        have HX1 := hide (HX.out.trans hx1)
        have KX := hide (KX.out w1 hx1)
        clear d0 d1 d2 d3 d4 d5 d6 KN
        obtain ⟨d0, d1, d2, d3, d4, d5, d6⟩ := (HC.out.ext hx1).get7
        clear hx1
        by_cases hm : MayX y.x
        · rw [yes_iff.2 hm] at KX
          have HN := hide (HNEXT.out ⟨hn, hm⟩)
          clear hn hm
          go_wp2_with fail
          go_at_call 113
          refine KX.out.mono ?_
          rintro _ w2 ⟨rfl, hx2⟩
          have HX2 := hide (HX1.out.trans hx2)
          clear hx2
          go_wp2_with fail
          go_roundw
          case rel => exact ⟨k + 1, by omega, by go_num, HN.out, HX2.out⟩
          case measure => simp [intOf]; omega
        · rw [yes_no.2 hm] at KX
          have HF := hide (HFALSE.out fun h => hm h.2)
          clear hn hm
          go_wp2_with fail
          go_at_call 113
          refine KX.out.mono ?_
          rintro _ w2 ⟨rfl, hx2⟩
          have HX2 := hide (HX1.out.trans hx2)
          clear hx2
          go_wp2_with fail
          go_ret
          exact ⟨by rw [HF.out]; rfl, HX2.out⟩
      · rw [nameOk_no hn] at KN
        have HF := hide (HFALSE.out fun h => hn h.1)
        clear hn
        go_wp2_with fail
        go_at_call 112
        refine KN.out.mono ?_
        rintro _ w1 ⟨rfl, hx1⟩
        have HX1 := hide (HX.out.trans hx1)
        clear hx1
        go_wp2_with fail
        go_ret
        exact ⟨by rw [HF.out]; rfl, HX1.out⟩
    · have hkl : k = l.length := by omega
      subst hkl
      have HF := hide (show yes (∀ y, y ∈ l → MayB y) = true from yes_iff.2 fun x hx => by
        obtain ⟨j, hj, rfl⟩ := List.getElem_of_mem hx
        exact HP.out j hj hj)
      go_wp2_with fail
      go_ret
      exact ⟨by rw [HF.out]; rfl, hx⟩
/-- Has an item no other fields than those of its kind? -/
def onlyP (x : Itm) : Prop := fitsP (x.op ≠ 4 ∧ x.op ≠ 5 ∧ x.op ≠ 6 ∧ x.op ≠ 8) x.name ∧ fitsP (x.op = 7 ∨ x.op = 9) x.of ∧
  (x.op = 5 ∨ x.op = 6 ∨ x.s.length = 0) ∧ (x.op = 8 ∨ x.op = 9 ∨ x.l.length = 0) ∧ (x.op = 8 ∨ x.els.length = 0) ∧ (x.op = 7 ∨ x.params.length = 0 ∧ x.binds.length = 0)
end Go.Proofs.YtjoglnjpgkobeaaGreatDoor

/-
  THE DOCUMENT's ANSWER OF CHAPTER 03: only ().
-/
namespace Go.Proofs.YtjoglnjpgkobeaaGreatDoor
open Go Go.RowKit
set_option linter.all false
set_option linter.unusedVariables false
set_option linter.unusedSimpArgs false
set_option linter.unusedVariables false
set_option linter.unusedSimpArgs false
attribute [local go_sem] run_store_one
theorem name_full {s : ByteArray} (h : nameOk s = true) : s.toList.isEmpty = false := by
  have := nameOk_iff.1 h
  exact full_size (by obtain ⟨h1, -⟩ := this; omega)
theorem empty_iff {s : ByteArray} : s.toList.isEmpty = true ↔ s.size = 0 := by
  by_cases h : s.size = 0
  · rw [empty_size h]; simp [h]
  · rw [full_size h]; simp [h]
/-- fitsP, as a truth value. -/
theorem yes_fits (p : Prop) (b : Bool) (hp : p ↔ b = true) (s : ByteArray) : yes (fitsP p s) = ((b == !s.toList.isEmpty) && (!b || nameOk s)) := by
  have e1 := @empty_iff s
  have e2 := @nameOk_iff s
  have e3 : nameOk s = true → s.toList.isEmpty = false := name_full
  rw [Bool.eq_iff_iff, yes_iff]
  unfold fitsP
  rw [hp, ← e2, ← e1]
  cases b <;> cases h : s.toList.isEmpty <;> cases h2 : nameOk s <;> simp_all
end Go.Proofs.YtjoglnjpgkobeaaGreatDoor
