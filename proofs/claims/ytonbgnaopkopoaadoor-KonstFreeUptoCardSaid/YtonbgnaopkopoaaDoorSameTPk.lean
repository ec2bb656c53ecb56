/-
  THE CONTRACTS OF WHAT COMPARES TREES, package ast.
-/
import Derived.Test.YtonbgnaopkopoaaDoorSamePk
namespace Go.Proofs.YtonbgnaopkopoaaDoor
open Go Go.RowKit
set_option linter.all false
set_option linter.unusedVariables false
set_option linter.unusedSimpArgs false
set_option linter.unusedVariables false
set_option linter.unusedSimpArgs false
attribute [local go_sem] run_store_one
theorem enters_SameX : Enters Tryd.prog 33 := ⟨fun _ _ => by kernel_rfl⟩
set_option maxRecDepth 20000 in
set_option maxHeartbeats 2000000 in
theorem astSameX_any (B : Nat) (x : X) : ∀ (y : X) (w : World) (cs ds : List Value), RX w B x cs → RX w B y ds → B ≤ w.heap.size → sizeX x ≤ 1000000000 →
    Calls Tryd.prog 33 #[.agg cs.toArray, .agg ds.toArray] w fun e w' => e = .returned (.bool (same x y)) ∧ Ext w w' := by
  induction x using X.ind with
  | h x ih =>
  intro y w cs ds hR hR' hB hsz
  obtain ⟨a5, rfl, hS5⟩ := RX_iff.1 hR
  obtain ⟨b5, rfl, hT5⟩ := RX_iff.1 hR'
  have hs0 : 1 + msize sizeX x.l ≤ 1000000000 := by rw [← sizeX_eq]; exact hsz
  have hmem5 := hide (fun z (hz : z ∈ x.l) => msize_mem sizeX x.l z hz)
  have hln5 := length_le_msize sizeX x.l sizeX_pos
  have hr : same x y = true ↔ x.op = y.op ∧ x.name = y.name ∧ x.n = y.n ∧ x.w = y.w ∧ x.v = y.v ∧ x.l = y.l := by
    rw [same_iff]
    exact ⟨by rintro rfl; simp, fun ⟨q0, q1, q2, q3, q4, q5⟩ => X.ext_ q0 q1 q2 q3 q4 q5⟩
  generalize same x y = r at *
  have KR := hide hr
  have HS5 := hide hS5
  have HT5 := hide hT5
  have o5 := hS5.oneCell
  have p5 := hT5.oneCell
  have IH := hide ih
  clear hR hR' hsz hr hS5 hT5 ih
  generalize x.op = f0 at *
  generalize y.op = g0 at *
  generalize x.name = f1 at *
  generalize y.name = g1 at *
  generalize x.n = f2 at *
  generalize y.n = g2 at *
  generalize x.w = f3 at *
  generalize y.w = g3 at *
  generalize x.v = f4 at *
  generalize y.v = g4 at *
  generalize x.l = f5 at *
  generalize y.l = g5 at *
  obtain ⟨W1, hW1, hx1, hb1⟩ := box6 w (.int .i64 f0) (.string f1) (.int .i64 f2) (.int .i64 f3) (.int .u64 f4) a5 25
  obtain ⟨W2, hW2, hx2, hb2⟩ := box6 W1 (.int .i64 g0) (.string g1) (.int .i64 g2) (.int .i64 g3) (.int .u64 g4) b5 25
  have hz1 := size_box hW1
  have hz2 := size_box hW2
  have hV1 := hW1.symm
  have hV2 := hW2.symm
  rw [hz1] at hb2 hz2
  have HB1 := hide (hb1.ext hx2)
  have HB2 := hide hb2
  have hxw := hx1.trans hx2
  have hb0 := hxw.size
  obtain ⟨c0, c1, c2, c3, c4, c5⟩ := HB1.out.get6
  obtain ⟨d0, d1, d2, d3, d4, d5⟩ := HB2.out.get6
  clear hW1 hW2 hb1 hb2
  go_enter Tryd.func33, Tryd.ntmps33
  by_cases h0 : f0 = g0
  · subst h0
    by_cases h1 : f1 = g1
    · subst h1
      by_cases h2 : f2 = g2
      · subst h2
        by_cases h3 : f3 = g3
        · subst h3
          by_cases h4 : f4 = g4
          · subst h4
            go_wp2_with fail
            refine (eqfX_any _ enters_SameX B f5 g5 (fun z hz z' w cs ds h1 h2 h3 => IH.out z hz z' w cs ds h1 h2 h3 (by have := hmem5.out z hz; omega)) _ _ _ (HS5.out.extRX hxw hB) (HT5.out.extRX hxw hB) (by omega) (by omega)).mono ?_
            rintro e w1 ⟨rfl, hy1⟩
            have hxw1 := hxw.trans hy1
            have hb1 := hxw1.size
            have HB1 := hide (HB1.out.ext hy1)
            have HB2 := hide (HB2.out.ext hy1)
            clear c0 c1 c2 c3 c4 c5 d0 d1 d2 d3 d4 d5
            obtain ⟨c0, c1, c2, c3, c4, c5⟩ := HB1.out.get6
            obtain ⟨d0, d1, d2, d3, d4, d5⟩ := HB2.out.get6
            by_cases h5 : f5 = g5
            · rw [same_iff.2 h5]
              have hrt : r = true := KR.out.2 (by simp [h5])
              subst hrt
              go_wp2_with fail
              go_ret
              exact ⟨rfl, hxw1⟩
            · rw [same_false.2 h5]
              have hrf : r = false := Bool.eq_false_iff.2 (fun hh => h5 (KR.out.1 hh).2.2.2.2.2)
              subst hrf
              go_wp2_with fail
              go_ret
              exact ⟨rfl, hxw1⟩
          · have hbq : (f4 == g4) = false := beq_eq_false_iff_ne.2 h4
            have hrf : r = false := Bool.eq_false_iff.2 (fun hh => h4 (KR.out.1 hh).2.2.2.2.1)
            subst hrf
            go_wp2_with fail
            go_ret
            exact ⟨rfl, hxw⟩
        · have hbq : (f3 == g3) = false := beq_eq_false_iff_ne.2 h3
          have hrf : r = false := Bool.eq_false_iff.2 (fun hh => h3 (KR.out.1 hh).2.2.2.1)
          subst hrf
          go_wp2_with fail
          go_ret
          exact ⟨rfl, hxw⟩
      · have hbq : (f2 == g2) = false := beq_eq_false_iff_ne.2 h2
        have hrf : r = false := Bool.eq_false_iff.2 (fun hh => h2 (KR.out.1 hh).2.2.1)
        subst hrf
        go_wp2_with fail
        go_ret
        exact ⟨rfl, hxw⟩
    · have hbq : (f1.toList == g1.toList) = false := text_ne h1
      have hrf : r = false := Bool.eq_false_iff.2 (fun hh => h1 (KR.out.1 hh).2.1)
      subst hrf
      go_wp2_with fail
      go_ret
      exact ⟨rfl, hxw⟩
  · have hbq : (f0 == g0) = false := beq_eq_false_iff_ne.2 h0
    have hrf : r = false := Bool.eq_false_iff.2 (fun hh => h0 (KR.out.1 hh).1)
    subst hrf
    go_wp2_with fail
    go_ret
    exact ⟨rfl, hxw⟩

end Go.Proofs.YtonbgnaopkopoaaDoor
