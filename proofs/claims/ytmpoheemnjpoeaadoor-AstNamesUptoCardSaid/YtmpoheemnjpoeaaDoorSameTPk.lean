/-
  THE CONTRACTS OF WHAT COMPARES TREES, package ast.
-/
import Derived.Test.YtmpoheemnjpoeaaDoorSamePk
namespace Go.Proofs.YtmpoheemnjpoeaaDoor
open Go Go.RowKit
set_option linter.all false
set_option linter.unusedVariables false
set_option linter.unusedSimpArgs false
set_option linter.unusedVariables false
set_option linter.unusedSimpArgs false
attribute [local go_sem] run_store_one
theorem enters_SameX : Enters Tryd.prog 24 := ⟨fun _ _ => by kernel_rfl⟩
theorem enters_SameS : Enters Tryd.prog 26 := ⟨fun _ _ => by kernel_rfl⟩
theorem enters_sameB : Enters Tryd.prog 97 := ⟨fun _ _ => by kernel_rfl⟩
theorem enters_sameP : Enters Tryd.prog 99 := ⟨fun _ _ => by kernel_rfl⟩
theorem enters_sameI : Enters Tryd.prog 101 := ⟨fun _ _ => by kernel_rfl⟩
theorem enters_sameM : Enters Tryd.prog 56 := ⟨fun _ _ => by kernel_rfl⟩

set_option maxRecDepth 20000 in
set_option maxHeartbeats 2000000 in
theorem astSameX_any (B : Nat) (x : X) : ∀ (y : X) (w : World) (cs ds : List Value), RX w B x cs → RX w B y ds → B ≤ w.heap.size → sizeX x ≤ 1000000000 →
    Calls Tryd.prog 24 #[.agg cs.toArray, .agg ds.toArray] w fun e w' => e = .returned (.bool (same x y)) ∧ Ext w w' := by
  induction x using X.ind with
  | h x ih =>
  intro y w cs ds hR hR' hB hsz
  obtain ⟨a5, rfl, hS5⟩ := RX_iff.1 hR
  obtain ⟨b5, rfl, hT5⟩ := RX_iff.1 hR'
  have hs0 : 1 + msize sizeX x.l ≤ 1000000000 := by rw [← sizeX_eq]; exact hsz
  have hmem5 := hide (fun z (hz : z ∈ x.l) => msize_mem sizeX x.l z hz)
  have hln5 := length_le_msize sizeX x.l sizeX_pos
  have hr : same x y = true ↔ x.op = y.op ∧ x.name = y.name ∧ x.n = y.n ∧ x.w = y.w ∧ x.v = y.v ∧ x.l = y.l := by
    rw [same_iff]
    exact ⟨by rintro rfl; simp, fun ⟨q0, q1, q2, q3, q4, q5⟩ => X.ext_ q0 q1 q2 q3 q4 q5⟩
  generalize same x y = r at *
  have KR := hide hr
  have HS5 := hide hS5
  have HT5 := hide hT5
  have o5 := hS5.oneCell
  have p5 := hT5.oneCell
  have IH := hide ih
  clear hR hR' hsz hr hS5 hT5 ih
  generalize x.op = f0 at *
  generalize y.op = g0 at *
  generalize x.name = f1 at *
  generalize y.name = g1 at *
  generalize x.n = f2 at *
  generalize y.n = g2 at *
  generalize x.w = f3 at *
  generalize y.w = g3 at *
  generalize x.v = f4 at *
  generalize y.v = g4 at *
  generalize x.l = f5 at *
  generalize y.l = g5 at *
  obtain ⟨W1, hW1, hx1, hb1⟩ := box6 w (.int .i64 f0) (.string f1) (.int .i64 f2) (.int .i64 f3) (.int .u64 f4) a5 25
  obtain ⟨W2, hW2, hx2, hb2⟩ := box6 W1 (.int .i64 g0) (.string g1) (.int .i64 g2) (.int .i64 g3) (.int .u64 g4) b5 25
  have hz1 := size_box hW1
  have hz2 := size_box hW2
  have hV1 := hW1.symm
  have hV2 := hW2.symm
  rw [hz1] at hb2 hz2
  have HB1 := hide (hb1.ext hx2)
  have HB2 := hide hb2
  have hxw := hx1.trans hx2
  have hb0 := hxw.size
  obtain ⟨c0, c1, c2, c3, c4, c5⟩ := HB1.out.get6
  obtain ⟨d0, d1, d2, d3, d4, d5⟩ := HB2.out.get6
  clear hW1 hW2 hb1 hb2
  go_enter Tryd.func24, Tryd.ntmps24
  by_cases h0 : f0 = g0
  · subst h0
    by_cases h1 : f1 = g1
    · subst h1
      by_cases h2 : f2 = g2
      · subst h2
        by_cases h3 : f3 = g3
        · subst h3
          by_cases h4 : f4 = g4
          · subst h4
            go_wp2_with fail
            refine (eqfX_any _ enters_SameX B f5 g5 (fun z hz z' w cs ds h1 h2 h3 => IH.out z hz z' w cs ds h1 h2 h3 (by have := hmem5.out z hz; omega)) _ _ _ (HS5.out.extRX hxw hB) (HT5.out.extRX hxw hB) (by omega) (by omega)).mono ?_
            rintro e w1 ⟨rfl, hy1⟩
            have hxw1 := hxw.trans hy1
            have hb1 := hxw1.size
            have HB1 := hide (HB1.out.ext hy1)
            have HB2 := hide (HB2.out.ext hy1)
            clear c0 c1 c2 c3 c4 c5 d0 d1 d2 d3 d4 d5
            obtain ⟨c0, c1, c2, c3, c4, c5⟩ := HB1.out.get6
            obtain ⟨d0, d1, d2, d3, d4, d5⟩ := HB2.out.get6
            by_cases h5 : f5 = g5
            · rw [same_iff.2 h5]
              have hrt : r = true := KR.out.2 (by simp [h5])
              subst hrt
              go_wp2_with fail
              go_ret
              exact ⟨rfl, hxw1⟩
            · rw [same_false.2 h5]
              have hrf : r = false := Bool.eq_false_iff.2 (fun hh => h5 (KR.out.1 hh).2.2.2.2.2)
              subst hrf
              go_wp2_with fail
              go_ret
              exact ⟨rfl, hxw1⟩
          · have hbq : (f4 == g4) = false := beq_eq_false_iff_ne.2 h4
            have hrf : r = false := Bool.eq_false_iff.2 (fun hh => h4 (KR.out.1 hh).2.2.2.2.1)
            subst hrf
            go_wp2_with fail
            go_ret
            exact ⟨rfl, hxw⟩
        · have hbq : (f3 == g3) = false := beq_eq_false_iff_ne.2 h3
          have hrf : r = false := Bool.eq_false_iff.2 (fun hh => h3 (KR.out.1 hh).2.2.2.1)
          subst hrf
          go_wp2_with fail
          go_ret
          exact ⟨rfl, hxw⟩
      · have hbq : (f2 == g2) = false := beq_eq_false_iff_ne.2 h2
        have hrf : r = false := Bool.eq_false_iff.2 (fun hh => h2 (KR.out.1 hh).2.2.1)
        subst hrf
        go_wp2_with fail
        go_ret
        exact ⟨rfl, hxw⟩
    · have hbq : (f1.toList == g1.toList) = false := text_ne h1
      have hrf : r = false := Bool.eq_false_iff.2 (fun hh => h1 (KR.out.1 hh).2.1)
      subst hrf
      go_wp2_with fail
      go_ret
      exact ⟨rfl, hxw⟩
  · have hbq : (f0 == g0) = false := beq_eq_false_iff_ne.2 h0
    have hrf : r = false := Bool.eq_false_iff.2 (fun hh => h0 (KR.out.1 hh).1)
    subst hrf
    go_wp2_with fail
    go_ret
    exact ⟨rfl, hxw⟩

set_option maxRecDepth 20000 in
set_option maxHeartbeats 2000000 in
theorem astSameS_any (B : Nat) (x : S) : ∀ (y : S) (w : World) (cs ds : List Value), RS w B x cs → RS w B y ds → B ≤ w.heap.size → sizeS x ≤ 1000000000 →
    Calls Tryd.prog 26 #[.agg cs.toArray, .agg ds.toArray] w fun e w' => e = .returned (.bool (same x y)) ∧ Ext w w' := by
  induction x using S.ind with
  | h x ih =>
  intro y w cs ds hR hR' hB hsz
  obtain ⟨a2, a3, rfl, hS2, hS3⟩ := RS_iff.1 hR
  obtain ⟨b2, b3, rfl, hT2, hT3⟩ := RS_iff.1 hR'
  have hs0 : 1 + msize sizeX x.x + msize sizeS x.l ≤ 1000000000 := by rw [← sizeS_eq]; exact hsz
  have hmem2 := hide (fun z (hz : z ∈ x.x) => msize_mem sizeX x.x z hz)
  have hln2 := length_le_msize sizeX x.x sizeX_pos
  have hmem3 := hide (fun z (hz : z ∈ x.l) => msize_mem sizeS x.l z hz)
  have hln3 := length_le_msize sizeS x.l sizeS_pos
  have hr : same x y = true ↔ x.op = y.op ∧ x.name = y.name ∧ x.x = y.x ∧ x.l = y.l := by
    rw [same_iff]
    exact ⟨by rintro rfl; simp, fun ⟨q0, q1, q2, q3⟩ => S.ext_ q0 q1 q2 q3⟩
  generalize same x y = r at *
  have KR := hide hr
  have HS2 := hide hS2
  have HT2 := hide hT2
  have o2 := hS2.oneCell
  have p2 := hT2.oneCell
  have HS3 := hide hS3
  have HT3 := hide hT3
  have o3 := hS3.oneCell
  have p3 := hT3.oneCell
  have IH := hide ih
  clear hR hR' hsz hr hS2 hT2 hS3 hT3 ih
  generalize x.op = f0 at *
  generalize y.op = g0 at *
  generalize x.name = f1 at *
  generalize y.name = g1 at *
  generalize x.x = f2 at *
  generalize y.x = g2 at *
  generalize x.l = f3 at *
  generalize y.l = g3 at *
  obtain ⟨W1, hW1, hx1, hb1⟩ := box4 w (.int .i64 f0) (.string f1) a2 a3 28
  obtain ⟨W2, hW2, hx2, hb2⟩ := box4 W1 (.int .i64 g0) (.string g1) b2 b3 28
  have hz1 := size_box hW1
  have hz2 := size_box hW2
  have hV1 := hW1.symm
  have hV2 := hW2.symm
  rw [hz1] at hb2 hz2
  have HB1 := hide (hb1.ext hx2)
  have HB2 := hide hb2
  have hxw := hx1.trans hx2
  have hb0 := hxw.size
  obtain ⟨c0, c1, c2, c3⟩ := HB1.out.get4
  obtain ⟨d0, d1, d2, d3⟩ := HB2.out.get4
  clear hW1 hW2 hb1 hb2
  go_enter Tryd.func26, Tryd.ntmps26
  by_cases h0 : f0 = g0
  · subst h0
    by_cases h1 : f1 = g1
    · subst h1
      go_wp2_with fail
      refine (eqfX_any _ enters_SameX B f2 g2 (fun z hz z' w cs ds h1 h2 h3 => astSameX_any B z z' w cs ds h1 h2 h3 (by have := hmem2.out z hz; omega)) _ _ _ (HS2.out.extRX hxw hB) (HT2.out.extRX hxw hB) (by omega) (by omega)).mono ?_
      rintro e w1 ⟨rfl, hy1⟩
      have hxw1 := hxw.trans hy1
      have hb1 := hxw1.size
      have HB1 := hide (HB1.out.ext hy1)
      have HB2 := hide (HB2.out.ext hy1)
      clear c0 c1 c2 c3 d0 d1 d2 d3
      obtain ⟨c0, c1, c2, c3⟩ := HB1.out.get4
      obtain ⟨d0, d1, d2, d3⟩ := HB2.out.get4
      by_cases h2 : f2 = g2
      · rw [same_iff.2 h2]
        go_wp2_with fail
        refine (eqfS_any _ enters_SameS B f3 g3 (fun z hz z' w cs ds h1 h2 h3 => IH.out z hz z' w cs ds h1 h2 h3 (by have := hmem3.out z hz; omega)) _ _ _ (HS3.out.extRS hxw1 hB) (HT3.out.extRS hxw1 hB) (by omega) (by omega)).mono ?_
        rintro e w2 ⟨rfl, hy2⟩
        have hxw2 := hxw1.trans hy2
        have hb2 := hxw2.size
        have HB1 := hide (HB1.out.ext hy2)
        have HB2 := hide (HB2.out.ext hy2)
        clear c0 c1 c2 c3 d0 d1 d2 d3
        obtain ⟨c0, c1, c2, c3⟩ := HB1.out.get4
        obtain ⟨d0, d1, d2, d3⟩ := HB2.out.get4
        by_cases h3 : f3 = g3
        · rw [same_iff.2 h3]
          have hrt : r = true := KR.out.2 (by simp [h2, h3])
          subst hrt
          go_wp2_with fail
          go_ret
          exact ⟨rfl, hxw2⟩
        · rw [same_false.2 h3]
          have hrf : r = false := Bool.eq_false_iff.2 (fun hh => h3 (KR.out.1 hh).2.2.2)
          subst hrf
          go_wp2_with fail
          go_ret
          exact ⟨rfl, hxw2⟩
      · rw [same_false.2 h2]
        have hrf : r = false := Bool.eq_false_iff.2 (fun hh => h2 (KR.out.1 hh).2.2.1)
        subst hrf
        go_wp2_with fail
        go_ret
        exact ⟨rfl, hxw1⟩
    · have hbq : (f1.toList == g1.toList) = false := text_ne h1
      have hrf : r = false := Bool.eq_false_iff.2 (fun hh => h1 (KR.out.1 hh).2.1)
      subst hrf
      go_wp2_with fail
      go_ret
      exact ⟨rfl, hxw⟩
  · have hbq : (f0 == g0) = false := beq_eq_false_iff_ne.2 h0
    have hrf : r = false := Bool.eq_false_iff.2 (fun hh => h0 (KR.out.1 hh).1)
    subst hrf
    go_wp2_with fail
    go_ret
    exact ⟨rfl, hxw⟩

set_option maxRecDepth 20000 in
set_option maxHeartbeats 2000000 in
theorem astsameB_any (B : Nat) (x : Bnd) (y : Bnd) (w : World) (cs ds : List Value) : RB w B x cs → RB w B y ds → B ≤ w.heap.size → sizeB x ≤ 1000000000 →
    Calls Tryd.prog 97 #[.agg cs.toArray, .agg ds.toArray] w fun e w' => e = .returned (.bool (same x y)) ∧ Ext w w' := by
  intro hR hR' hB hsz
  obtain ⟨cs, rfl, hC1⟩ := hR
  obtain ⟨ds, rfl, hD1⟩ := hR'
  obtain ⟨a1, rfl, hS1⟩ := RX_iff.1 hC1
  obtain ⟨b1, rfl, hT1⟩ := RX_iff.1 hD1
  have hs0 : 1 + sizeX x.x ≤ 1000000000 := hsz
  have hr : same x y = true ↔ x.name = y.name ∧ x.x = y.x := by
    rw [same_iff]
    exact ⟨by rintro rfl; simp, fun ⟨q0, q1⟩ => Bnd.ext_ q0 q1⟩
  generalize same x y = r at *
  have KR := hide hr
  have HS1 := hide hS1
  have HT1 := hide hT1
  have HC1 := hide hC1
  have HD1 := hide hD1
  have o1 := hS1.oneCell
  have p1 := hT1.oneCell
  clear hsz hr hS1 hT1  hC1 hD1
  generalize x.name = f0 at *
  generalize y.name = g0 at *
  generalize x.x = f1 at *
  generalize y.x = g1 at *
  obtain ⟨W1, hW1, hx1, hb1⟩ := box7 w (.string f0) (.int .i64 f1.op) (.string f1.name) (.int .i64 f1.n) (.int .i64 f1.w) (.int .u64 f1.v) a1 107
  obtain ⟨W2, hW2, hx2, hb2⟩ := box7 W1 (.string g0) (.int .i64 g1.op) (.string g1.name) (.int .i64 g1.n) (.int .i64 g1.w) (.int .u64 g1.v) b1 107
  have hz1 := size_box hW1
  have hz2 := size_box hW2
  have hV1 := hW1.symm
  have hV2 := hW2.symm
  rw [hz1] at hb2 hz2
  have HB1 := hide (hb1.ext hx2)
  have HB2 := hide hb2
  have hxw := hx1.trans hx2
  have hb0 := hxw.size
  obtain ⟨c0, c1, c2, c3, c4, c5, c6⟩ := HB1.out.get7
  obtain ⟨d0, d1, d2, d3, d4, d5, d6⟩ := HB2.out.get7
  clear hW1 hW2 hb1 hb2
  go_enter Tryd.func97, Tryd.ntmps97
  by_cases h0 : f0 = g0
  · subst h0
    go_wp2_with fail
    refine (astSameX_any B f1 g1 _ _ _ (HC1.out.ext hxw hB) (HD1.out.ext hxw hB) (by omega) (by omega)).mono ?_
    rintro e w1 ⟨rfl, hy1⟩
    have hxw1 := hxw.trans hy1
    have hb1 := hxw1.size
    have HB1 := hide (HB1.out.ext hy1)
    have HB2 := hide (HB2.out.ext hy1)
    clear c0 c1 c2 c3 c4 c5 c6 d0 d1 d2 d3 d4 d5 d6
    obtain ⟨c0, c1, c2, c3, c4, c5, c6⟩ := HB1.out.get7
    obtain ⟨d0, d1, d2, d3, d4, d5, d6⟩ := HB2.out.get7
    by_cases h1 : f1 = g1
    · rw [same_iff.2 h1]
      have hrt : r = true := KR.out.2 (by simp [h1])
      subst hrt
      go_wp2_with fail
      go_ret
      exact ⟨rfl, hxw1⟩
    · rw [same_false.2 h1]
      have hrf : r = false := Bool.eq_false_iff.2 (fun hh => h1 (KR.out.1 hh).2)
      subst hrf
      go_wp2_with fail
      go_ret
      exact ⟨rfl, hxw1⟩
  · have hbq : (f0.toList == g0.toList) = false := text_ne h0
    have hrf : r = false := Bool.eq_false_iff.2 (fun hh => h0 (KR.out.1 hh).1)
    subst hrf
    go_wp2_with fail
    go_ret
    exact ⟨rfl, hxw⟩

set_option maxRecDepth 20000 in
set_option maxHeartbeats 2000000 in
theorem astsameP_any (B : Nat) (x : Prt) (y : Prt) (w : World) (cs ds : List Value) : RP w B x cs → RP w B y ds → B ≤ w.heap.size → sizeP x ≤ 1000000000 →
    Calls Tryd.prog 99 #[.agg cs.toArray, .agg ds.toArray] w fun e w' => e = .returned (.bool (same x y)) ∧ Ext w w' := by
  intro hR hR' hB hsz
  obtain ⟨cs, rfl, hC2⟩ := hR
  obtain ⟨ds, rfl, hD2⟩ := hR'
  obtain ⟨a2, rfl, hS2⟩ := RX_iff.1 hC2
  obtain ⟨b2, rfl, hT2⟩ := RX_iff.1 hD2
  have hs0 : 1 + sizeX x.w ≤ 1000000000 := hsz
  have hr : same x y = true ↔ x.name = y.name ∧ x.out = y.out ∧ x.w = y.w := by
    rw [same_iff]
    exact ⟨by rintro rfl; simp, fun ⟨q0, q1, q2⟩ => Prt.ext_ q0 q1 q2⟩
  generalize same x y = r at *
  have KR := hide hr
  have HS2 := hide hS2
  have HT2 := hide hT2
  have HC2 := hide hC2
  have HD2 := hide hD2
  have o2 := hS2.oneCell
  have p2 := hT2.oneCell
  clear hsz hr hS2 hT2  hC2 hD2
  generalize x.name = f0 at *
  generalize y.name = g0 at *
  generalize x.out = f1 at *
  generalize y.out = g1 at *
  generalize x.w = f2 at *
  generalize y.w = g2 at *
  obtain ⟨W1, hW1, hx1, hb1⟩ := box8 w (.string f0) (.bool f1) (.int .i64 f2.op) (.string f2.name) (.int .i64 f2.n) (.int .i64 f2.w) (.int .u64 f2.v) a2 104
  obtain ⟨W2, hW2, hx2, hb2⟩ := box8 W1 (.string g0) (.bool g1) (.int .i64 g2.op) (.string g2.name) (.int .i64 g2.n) (.int .i64 g2.w) (.int .u64 g2.v) b2 104
  have hz1 := size_box hW1
  have hz2 := size_box hW2
  have hV1 := hW1.symm
  have hV2 := hW2.symm
  rw [hz1] at hb2 hz2
  have HB1 := hide (hb1.ext hx2)
  have HB2 := hide hb2
  have hxw := hx1.trans hx2
  have hb0 := hxw.size
  obtain ⟨c0, c1, c2, c3, c4, c5, c6, c7⟩ := HB1.out.get8
  obtain ⟨d0, d1, d2, d3, d4, d5, d6, d7⟩ := HB2.out.get8
  clear hW1 hW2 hb1 hb2
  go_enter Tryd.func99, Tryd.ntmps99
  by_cases h0 : f0 = g0
  · subst h0
    by_cases h1 : f1 = g1
    · subst h1
      go_wp2_with fail
      refine (astSameX_any B f2 g2 _ _ _ (HC2.out.ext hxw hB) (HD2.out.ext hxw hB) (by omega) (by omega)).mono ?_
      rintro e w1 ⟨rfl, hy1⟩
      have hxw1 := hxw.trans hy1
      have hb1 := hxw1.size
      have HB1 := hide (HB1.out.ext hy1)
      have HB2 := hide (HB2.out.ext hy1)
      clear c0 c1 c2 c3 c4 c5 c6 c7 d0 d1 d2 d3 d4 d5 d6 d7
      obtain ⟨c0, c1, c2, c3, c4, c5, c6, c7⟩ := HB1.out.get8
      obtain ⟨d0, d1, d2, d3, d4, d5, d6, d7⟩ := HB2.out.get8
      by_cases h2 : f2 = g2
      · rw [same_iff.2 h2]
        have hrt : r = true := KR.out.2 (by simp [h2])
        subst hrt
        go_wp2_with fail
        go_ret
        exact ⟨rfl, hxw1⟩
      · rw [same_false.2 h2]
        have hrf : r = false := Bool.eq_false_iff.2 (fun hh => h2 (KR.out.1 hh).2.2)
        subst hrf
        go_wp2_with fail
        go_ret
        exact ⟨rfl, hxw1⟩
    · have hbq : (f1 == g1) = false := beq_eq_false_iff_ne.2 h1
      have hrf : r = false := Bool.eq_false_iff.2 (fun hh => h1 (KR.out.1 hh).2.1)
      subst hrf
      go_wp2_with fail
      go_ret
      exact ⟨rfl, hxw⟩
  · have hbq : (f0.toList == g0.toList) = false := text_ne h0
    have hrf : r = false := Bool.eq_false_iff.2 (fun hh => h0 (KR.out.1 hh).1)
    subst hrf
    go_wp2_with fail
    go_ret
    exact ⟨rfl, hxw⟩

set_option maxRecDepth 20000 in
set_option maxHeartbeats 2000000 in
theorem astsameI_any (B : Nat) (x : Itm) : ∀ (y : Itm) (w : World) (cs ds : List Value), RI w B x cs → RI w B y ds → B ≤ w.heap.size → sizeI x ≤ 1000000000 →
    Calls Tryd.prog 101 #[.agg cs.toArray, .agg ds.toArray] w fun e w' => e = .returned (.bool (same x y)) ∧ Ext w w' := by
  induction x using Itm.ind with
  | h x ih1 ih2 =>
  intro y w cs ds hR hR' hB hsz
  obtain ⟨a3, a4, a5, a6, a7, a8, rfl, hS3, hS4, hS5, hS6, hS7, hS8⟩ := RI_iff.1 hR
  obtain ⟨b3, b4, b5, b6, b7, b8, rfl, hT3, hT4, hT5, hT6, hT7, hT8⟩ := RI_iff.1 hR'
  have hs0 : 1 + msize sizeX x.x + msize sizeS x.s + msize sizeI x.l + msize sizeI x.els + msize sizeB x.params + msize sizeB x.binds ≤ 1000000000 := by rw [← sizeI_eq]; exact hsz
  have hmem3 := hide (fun z (hz : z ∈ x.x) => msize_mem sizeX x.x z hz)
  have hln3 := length_le_msize sizeX x.x sizeX_pos
  have hmem4 := hide (fun z (hz : z ∈ x.s) => msize_mem sizeS x.s z hz)
  have hln4 := length_le_msize sizeS x.s sizeS_pos
  have hmem5 := hide (fun z (hz : z ∈ x.l) => msize_mem sizeI x.l z hz)
  have hln5 := length_le_msize sizeI x.l sizeI_pos
  have hmem6 := hide (fun z (hz : z ∈ x.els) => msize_mem sizeI x.els z hz)
  have hln6 := length_le_msize sizeI x.els sizeI_pos
  have hmem7 := hide (fun z (hz : z ∈ x.params) => msize_mem sizeB x.params z hz)
  have hln7 := length_le_msize sizeB x.params sizeB_pos
  have hmem8 := hide (fun z (hz : z ∈ x.binds) => msize_mem sizeB x.binds z hz)
  have hln8 := length_le_msize sizeB x.binds sizeB_pos
  have hr : same x y = true ↔ x.op = y.op ∧ x.name = y.name ∧ x.of = y.of ∧ x.x = y.x ∧ x.s = y.s ∧ x.l = y.l ∧ x.els = y.els ∧ x.params = y.params ∧ x.binds = y.binds := by
    rw [same_iff]
    exact ⟨by rintro rfl; simp, fun ⟨q0, q1, q2, q3, q4, q5, q6, q7, q8⟩ => Itm.ext_ q0 q1 q2 q3 q4 q5 q6 q7 q8⟩
  generalize same x y = r at *
  have KR := hide hr
  have HS3 := hide hS3
  have HT3 := hide hT3
  have o3 := hS3.oneCell
  have p3 := hT3.oneCell
  have HS4 := hide hS4
  have HT4 := hide hT4
  have o4 := hS4.oneCell
  have p4 := hT4.oneCell
  have HS5 := hide hS5
  have HT5 := hide hT5
  have o5 := hS5.oneCell
  have p5 := hT5.oneCell
  have HS6 := hide hS6
  have HT6 := hide hT6
  have o6 := hS6.oneCell
  have p6 := hT6.oneCell
  have HS7 := hide hS7
  have HT7 := hide hT7
  have o7 := hS7.oneCell
  have p7 := hT7.oneCell
  have HS8 := hide hS8
  have HT8 := hide hT8
  have o8 := hS8.oneCell
  have p8 := hT8.oneCell
  have IH1 := hide ih1
  have IH2 := hide ih2
  clear hR hR' hsz hr hS3 hT3 hS4 hT4 hS5 hT5 hS6 hT6 hS7 hT7 hS8 hT8 ih1 ih2
  generalize x.op = f0 at *
  generalize y.op = g0 at *
  generalize x.name = f1 at *
  generalize y.name = g1 at *
  generalize x.of = f2 at *
  generalize y.of = g2 at *
  generalize x.x = f3 at *
  generalize y.x = g3 at *
  generalize x.s = f4 at *
  generalize y.s = g4 at *
  generalize x.l = f5 at *
  generalize y.l = g5 at *
  generalize x.els = f6 at *
  generalize y.els = g6 at *
  generalize x.params = f7 at *
  generalize y.params = g7 at *
  generalize x.binds = f8 at *
  generalize y.binds = g8 at *
  obtain ⟨W1, hW1, hx1, hb1⟩ := box9 w (.int .i64 f0) (.string f1) (.string f2) a3 a4 a5 a6 a7 a8 58
  obtain ⟨W2, hW2, hx2, hb2⟩ := box9 W1 (.int .i64 g0) (.string g1) (.string g2) b3 b4 b5 b6 b7 b8 58
  have hz1 := size_box hW1
  have hz2 := size_box hW2
  have hV1 := hW1.symm
  have hV2 := hW2.symm
  rw [hz1] at hb2 hz2
  have HB1 := hide (hb1.ext hx2)
  have HB2 := hide hb2
  have hxw := hx1.trans hx2
  have hb0 := hxw.size
  obtain ⟨c0, c1, c2, c3, c4, c5, c6, c7, c8⟩ := HB1.out.get9
  obtain ⟨d0, d1, d2, d3, d4, d5, d6, d7, d8⟩ := HB2.out.get9
  clear hW1 hW2 hb1 hb2
  go_enter Tryd.func101, Tryd.ntmps101
  by_cases h0 : f0 = g0
  · subst h0
    by_cases h1 : f1 = g1
    · subst h1
      by_cases h2 : f2 = g2
      · subst h2
        go_wp2_with fail
        refine (eqfX_any _ enters_SameX B f3 g3 (fun z hz z' w cs ds h1 h2 h3 => astSameX_any B z z' w cs ds h1 h2 h3 (by have := hmem3.out z hz; omega)) _ _ _ (HS3.out.extRX hxw hB) (HT3.out.extRX hxw hB) (by omega) (by omega)).mono ?_
        rintro e w1 ⟨rfl, hy1⟩
        have hxw1 := hxw.trans hy1
        have hb1 := hxw1.size
        have HB1 := hide (HB1.out.ext hy1)
        have HB2 := hide (HB2.out.ext hy1)
        clear c0 c1 c2 c3 c4 c5 c6 c7 c8 d0 d1 d2 d3 d4 d5 d6 d7 d8
        obtain ⟨c0, c1, c2, c3, c4, c5, c6, c7, c8⟩ := HB1.out.get9
        obtain ⟨d0, d1, d2, d3, d4, d5, d6, d7, d8⟩ := HB2.out.get9
        by_cases h3 : f3 = g3
        · rw [same_iff.2 h3]
          go_wp2_with fail
          refine (eqfS_any _ enters_SameS B f4 g4 (fun z hz z' w cs ds h1 h2 h3 => astSameS_any B z z' w cs ds h1 h2 h3 (by have := hmem4.out z hz; omega)) _ _ _ (HS4.out.extRS hxw1 hB) (HT4.out.extRS hxw1 hB) (by omega) (by omega)).mono ?_
          rintro e w2 ⟨rfl, hy2⟩
          have hxw2 := hxw1.trans hy2
          have hb2 := hxw2.size
          have HB1 := hide (HB1.out.ext hy2)
          have HB2 := hide (HB2.out.ext hy2)
          clear c0 c1 c2 c3 c4 c5 c6 c7 c8 d0 d1 d2 d3 d4 d5 d6 d7 d8
          obtain ⟨c0, c1, c2, c3, c4, c5, c6, c7, c8⟩ := HB1.out.get9
          obtain ⟨d0, d1, d2, d3, d4, d5, d6, d7, d8⟩ := HB2.out.get9
          by_cases h4 : f4 = g4
          · rw [same_iff.2 h4]
            go_wp2_with fail
            refine (eqfItm_any _ enters_sameI B f5 g5 (fun z hz z' w cs ds h1 h2 h3 => IH1.out z hz z' w cs ds h1 h2 h3 (by have := hmem5.out z hz; omega)) _ _ _ (HS5.out.extRI hxw2 hB) (HT5.out.extRI hxw2 hB) (by omega) (by omega)).mono ?_
            rintro e w3 ⟨rfl, hy3⟩
            have hxw3 := hxw2.trans hy3
            have hb3 := hxw3.size
            have HB1 := hide (HB1.out.ext hy3)
            have HB2 := hide (HB2.out.ext hy3)
            clear c0 c1 c2 c3 c4 c5 c6 c7 c8 d0 d1 d2 d3 d4 d5 d6 d7 d8
            obtain ⟨c0, c1, c2, c3, c4, c5, c6, c7, c8⟩ := HB1.out.get9
            obtain ⟨d0, d1, d2, d3, d4, d5, d6, d7, d8⟩ := HB2.out.get9
            by_cases h5 : f5 = g5
            · rw [same_iff.2 h5]
              go_wp2_with fail
              refine (eqfItm_any _ enters_sameI B f6 g6 (fun z hz z' w cs ds h1 h2 h3 => IH2.out z hz z' w cs ds h1 h2 h3 (by have := hmem6.out z hz; omega)) _ _ _ (HS6.out.extRI hxw3 hB) (HT6.out.extRI hxw3 hB) (by omega) (by omega)).mono ?_
              rintro e w4 ⟨rfl, hy4⟩
              have hxw4 := hxw3.trans hy4
              have hb4 := hxw4.size
              have HB1 := hide (HB1.out.ext hy4)
              have HB2 := hide (HB2.out.ext hy4)
              clear c0 c1 c2 c3 c4 c5 c6 c7 c8 d0 d1 d2 d3 d4 d5 d6 d7 d8
              obtain ⟨c0, c1, c2, c3, c4, c5, c6, c7, c8⟩ := HB1.out.get9
              obtain ⟨d0, d1, d2, d3, d4, d5, d6, d7, d8⟩ := HB2.out.get9
              by_cases h6 : f6 = g6
              · rw [same_iff.2 h6]
                go_wp2_with fail
                refine (eqfBnd_any _ enters_sameB B f7 g7 (fun z hz z' w cs ds h1 h2 h3 => astsameB_any B z z' w cs ds h1 h2 h3 (by have := hmem7.out z hz; omega)) _ _ _ (HS7.out.extRB hxw4 hB) (HT7.out.extRB hxw4 hB) (by omega) (by omega)).mono ?_
                rintro e w5 ⟨rfl, hy5⟩
                have hxw5 := hxw4.trans hy5
                have hb5 := hxw5.size
                have HB1 := hide (HB1.out.ext hy5)
                have HB2 := hide (HB2.out.ext hy5)
                clear c0 c1 c2 c3 c4 c5 c6 c7 c8 d0 d1 d2 d3 d4 d5 d6 d7 d8
                obtain ⟨c0, c1, c2, c3, c4, c5, c6, c7, c8⟩ := HB1.out.get9
                obtain ⟨d0, d1, d2, d3, d4, d5, d6, d7, d8⟩ := HB2.out.get9
                by_cases h7 : f7 = g7
                · rw [same_iff.2 h7]
                  go_wp2_with fail
                  refine (eqfBnd_any _ enters_sameB B f8 g8 (fun z hz z' w cs ds h1 h2 h3 => astsameB_any B z z' w cs ds h1 h2 h3 (by have := hmem8.out z hz; omega)) _ _ _ (HS8.out.extRB hxw5 hB) (HT8.out.extRB hxw5 hB) (by omega) (by omega)).mono ?_
                  rintro e w6 ⟨rfl, hy6⟩
                  have hxw6 := hxw5.trans hy6
                  have hb6 := hxw6.size
                  have HB1 := hide (HB1.out.ext hy6)
                  have HB2 := hide (HB2.out.ext hy6)
                  clear c0 c1 c2 c3 c4 c5 c6 c7 c8 d0 d1 d2 d3 d4 d5 d6 d7 d8
                  obtain ⟨c0, c1, c2, c3, c4, c5, c6, c7, c8⟩ := HB1.out.get9
                  obtain ⟨d0, d1, d2, d3, d4, d5, d6, d7, d8⟩ := HB2.out.get9
                  by_cases h8 : f8 = g8
                  · rw [same_iff.2 h8]
                    have hrt : r = true := KR.out.2 (by simp [h3, h4, h5, h6, h7, h8])
                    subst hrt
                    go_wp2_with fail
                    go_ret
                    exact ⟨rfl, hxw6⟩
                  · rw [same_false.2 h8]
                    have hrf : r = false := Bool.eq_false_iff.2 (fun hh => h8 (KR.out.1 hh).2.2.2.2.2.2.2.2)
                    subst hrf
                    go_wp2_with fail
                    go_ret
                    exact ⟨rfl, hxw6⟩
                · rw [same_false.2 h7]
                  have hrf : r = false := Bool.eq_false_iff.2 (fun hh => h7 (KR.out.1 hh).2.2.2.2.2.2.2.1)
                  subst hrf
                  go_wp2_with fail
                  go_ret
                  exact ⟨rfl, hxw5⟩
              · rw [same_false.2 h6]
                have hrf : r = false := Bool.eq_false_iff.2 (fun hh => h6 (KR.out.1 hh).2.2.2.2.2.2.1)
                subst hrf
                go_wp2_with fail
                go_ret
                exact ⟨rfl, hxw4⟩
            · rw [same_false.2 h5]
              have hrf : r = false := Bool.eq_false_iff.2 (fun hh => h5 (KR.out.1 hh).2.2.2.2.2.1)
              subst hrf
              go_wp2_with fail
              go_ret
              exact ⟨rfl, hxw3⟩
          · rw [same_false.2 h4]
            have hrf : r = false := Bool.eq_false_iff.2 (fun hh => h4 (KR.out.1 hh).2.2.2.2.1)
            subst hrf
            go_wp2_with fail
            go_ret
            exact ⟨rfl, hxw2⟩
        · rw [same_false.2 h3]
          have hrf : r = false := Bool.eq_false_iff.2 (fun hh => h3 (KR.out.1 hh).2.2.2.1)
          subst hrf
          go_wp2_with fail
          go_ret
          exact ⟨rfl, hxw1⟩
      · have hbq : (f2.toList == g2.toList) = false := text_ne h2
        have hrf : r = false := Bool.eq_false_iff.2 (fun hh => h2 (KR.out.1 hh).2.2.1)
        subst hrf
        go_wp2_with fail
        go_ret
        exact ⟨rfl, hxw⟩
    · have hbq : (f1.toList == g1.toList) = false := text_ne h1
      have hrf : r = false := Bool.eq_false_iff.2 (fun hh => h1 (KR.out.1 hh).2.1)
      subst hrf
      go_wp2_with fail
      go_ret
      exact ⟨rfl, hxw⟩
  · have hbq : (f0 == g0) = false := beq_eq_false_iff_ne.2 h0
    have hrf : r = false := Bool.eq_false_iff.2 (fun hh => h0 (KR.out.1 hh).1)
    subst hrf
    go_wp2_with fail
    go_ret
    exact ⟨rfl, hxw⟩

set_option maxRecDepth 20000 in
set_option maxHeartbeats 2000000 in
theorem astsameM_any (B : Nat) (x : Mdl) (y : Mdl) (w : World) (cs ds : List Value) : RM w B x cs → RM w B y ds → B ≤ w.heap.size → sizeM x ≤ 1000000000 →
    Calls Tryd.prog 56 #[.agg cs.toArray, .agg ds.toArray] w fun e w' => e = .returned (.bool (same x y)) ∧ Ext w w' := by
  intro hR hR' hB hsz
  obtain ⟨a1, a2, a3, rfl, hS1, hS2, hS3⟩ := hR
  obtain ⟨b1, b2, b3, rfl, hT1, hT2, hT3⟩ := hR'
  have hs0 : 1 + msize sizeB x.params + msize sizeP x.ports + msize sizeI x.items ≤ 1000000000 := hsz
  have hmem1 := hide (fun z (hz : z ∈ x.params) => msize_mem sizeB x.params z hz)
  have hln1 := length_le_msize sizeB x.params sizeB_pos
  have hmem2 := hide (fun z (hz : z ∈ x.ports) => msize_mem sizeP x.ports z hz)
  have hln2 := length_le_msize sizeP x.ports sizeP_pos
  have hmem3 := hide (fun z (hz : z ∈ x.items) => msize_mem sizeI x.items z hz)
  have hln3 := length_le_msize sizeI x.items sizeI_pos
  have hr : same x y = true ↔ x.name = y.name ∧ x.params = y.params ∧ x.ports = y.ports ∧ x.items = y.items := by
    rw [same_iff]
    exact ⟨by rintro rfl; simp, fun ⟨q0, q1, q2, q3⟩ => Mdl.ext_ q0 q1 q2 q3⟩
  generalize same x y = r at *
  have KR := hide hr
  have HS1 := hide hS1
  have HT1 := hide hT1
  have o1 := hS1.oneCell
  have p1 := hT1.oneCell
  have HS2 := hide hS2
  have HT2 := hide hT2
  have o2 := hS2.oneCell
  have p2 := hT2.oneCell
  have HS3 := hide hS3
  have HT3 := hide hT3
  have o3 := hS3.oneCell
  have p3 := hT3.oneCell
  clear hsz hr hS1 hT1 hS2 hT2 hS3 hT3 
  generalize x.name = f0 at *
  generalize y.name = g0 at *
  generalize x.params = f1 at *
  generalize y.params = g1 at *
  generalize x.ports = f2 at *
  generalize y.ports = g2 at *
  generalize x.items = f3 at *
  generalize y.items = g3 at *
  obtain ⟨W1, hW1, hx1, hb1⟩ := box4 w (.string f0) a1 a2 a3 61
  obtain ⟨W2, hW2, hx2, hb2⟩ := box4 W1 (.string g0) b1 b2 b3 61
  have hz1 := size_box hW1
  have hz2 := size_box hW2
  have hV1 := hW1.symm
  have hV2 := hW2.symm
  rw [hz1] at hb2 hz2
  have HB1 := hide (hb1.ext hx2)
  have HB2 := hide hb2
  have hxw := hx1.trans hx2
  have hb0 := hxw.size
  obtain ⟨c0, c1, c2, c3⟩ := HB1.out.get4
  obtain ⟨d0, d1, d2, d3⟩ := HB2.out.get4
  clear hW1 hW2 hb1 hb2
  go_enter Tryd.func56, Tryd.ntmps56
  by_cases h0 : f0 = g0
  · subst h0
    go_wp2_with fail
    refine (eqfBnd_any _ enters_sameB B f1 g1 (fun z hz z' w cs ds h1 h2 h3 => astsameB_any B z z' w cs ds h1 h2 h3 (by have := hmem1.out z hz; omega)) _ _ _ (HS1.out.extRB hxw hB) (HT1.out.extRB hxw hB) (by omega) (by omega)).mono ?_
    rintro e w1 ⟨rfl, hy1⟩
    have hxw1 := hxw.trans hy1
    have hb1 := hxw1.size
    have HB1 := hide (HB1.out.ext hy1)
    have HB2 := hide (HB2.out.ext hy1)
    clear c0 c1 c2 c3 d0 d1 d2 d3
    obtain ⟨c0, c1, c2, c3⟩ := HB1.out.get4
    obtain ⟨d0, d1, d2, d3⟩ := HB2.out.get4
    by_cases h1 : f1 = g1
    · rw [same_iff.2 h1]
      go_wp2_with fail
      refine (eqfPrt_any _ enters_sameP B f2 g2 (fun z hz z' w cs ds h1 h2 h3 => astsameP_any B z z' w cs ds h1 h2 h3 (by have := hmem2.out z hz; omega)) _ _ _ (HS2.out.extRP hxw1 hB) (HT2.out.extRP hxw1 hB) (by omega) (by omega)).mono ?_
      rintro e w2 ⟨rfl, hy2⟩
      have hxw2 := hxw1.trans hy2
      have hb2 := hxw2.size
      have HB1 := hide (HB1.out.ext hy2)
      have HB2 := hide (HB2.out.ext hy2)
      clear c0 c1 c2 c3 d0 d1 d2 d3
      obtain ⟨c0, c1, c2, c3⟩ := HB1.out.get4
      obtain ⟨d0, d1, d2, d3⟩ := HB2.out.get4
      by_cases h2 : f2 = g2
      · rw [same_iff.2 h2]
        go_wp2_with fail
        refine (eqfItm_any _ enters_sameI B f3 g3 (fun z hz z' w cs ds h1 h2 h3 => astsameI_any B z z' w cs ds h1 h2 h3 (by have := hmem3.out z hz; omega)) _ _ _ (HS3.out.extRI hxw2 hB) (HT3.out.extRI hxw2 hB) (by omega) (by omega)).mono ?_
        rintro e w3 ⟨rfl, hy3⟩
        have hxw3 := hxw2.trans hy3
        have hb3 := hxw3.size
        have HB1 := hide (HB1.out.ext hy3)
        have HB2 := hide (HB2.out.ext hy3)
        clear c0 c1 c2 c3 d0 d1 d2 d3
        obtain ⟨c0, c1, c2, c3⟩ := HB1.out.get4
        obtain ⟨d0, d1, d2, d3⟩ := HB2.out.get4
        by_cases h3 : f3 = g3
        · rw [same_iff.2 h3]
          have hrt : r = true := KR.out.2 (by simp [h1, h2, h3])
          subst hrt
          go_wp2_with fail
          go_ret
          exact ⟨rfl, hxw3⟩
        · rw [same_false.2 h3]
          have hrf : r = false := Bool.eq_false_iff.2 (fun hh => h3 (KR.out.1 hh).2.2.2)
          subst hrf
          go_wp2_with fail
          go_ret
          exact ⟨rfl, hxw3⟩
      · rw [same_false.2 h2]
        have hrf : r = false := Bool.eq_false_iff.2 (fun hh => h2 (KR.out.1 hh).2.2.1)
        subst hrf
        go_wp2_with fail
        go_ret
        exact ⟨rfl, hxw2⟩
    · rw [same_false.2 h1]
      have hrf : r = false := Bool.eq_false_iff.2 (fun hh => h1 (KR.out.1 hh).2.1)
      subst hrf
      go_wp2_with fail
      go_ret
      exact ⟨rfl, hxw1⟩
  · have hbq : (f0.toList == g0.toList) = false := text_ne h0
    have hrf : r = false := Bool.eq_false_iff.2 (fun hh => h0 (KR.out.1 hh).1)
    subst hrf
    go_wp2_with fail
    go_ret
    exact ⟨rfl, hxw⟩

set_option maxRecDepth 20000 in
set_option maxHeartbeats 2000000 in
theorem astSame_any (B : Nat) (l m : List Mdl) (w : World) (v u : Value) (hS : Sl (RM w B) w B 4 l v) (hT : Sl (RM w B) w B 4 m u) (hB : B ≤ w.heap.size) (hsz : msize sizeM l ≤ 1000000000) :
    Calls Tryd.prog 22 #[.agg #[v], .agg #[u]] w fun e w' => e = .returned (.bool (same l m)) ∧ Ext w w' := by
  have hmem := hide (fun z (hz : z ∈ l) => msize_mem sizeM l z hz)
  have hln := length_le_msize sizeM l sizeM_pos
  have HS := hide hS
  have HT := hide hT
  have o0 := hS.oneCell
  have p0 := hT.oneCell
  clear hS hT
  obtain ⟨W1, hW1, hx1, hb1⟩ := box1 w v 41
  obtain ⟨W2, hW2, hx2, hb2⟩ := box1 W1 u 41
  have hz1 := size_box hW1
  have hz2 := size_box hW2
  have hV1 := hW1.symm
  have hV2 := hW2.symm
  rw [hz1] at hb2 hz2
  have HB1 := hide (hb1.ext hx2)
  have HB2 := hide hb2
  have hxw := hx1.trans hx2
  have hb0 := hxw.size
  have c0 := HB1.out.get1
  have d0 := HB2.out.get1
  clear hW1 hW2 hb1 hb2
  go_enter Tryd.func22, Tryd.ntmps22
  go_wp2_with fail
  refine (eqfMdl_any _ enters_sameM B l m (fun z hz z' w cs ds h1 h2 h3 => astsameM_any B z z' w cs ds h1 h2 h3 (by have := hmem.out z hz; omega)) _ _ _ (HS.out.extRM hxw hB) (HT.out.extRM hxw hB) (by omega) (by omega)).mono ?_
  rintro e w1 ⟨rfl, hy1⟩
  obtain ⟨r, hr⟩ : ∃ r, r = same l m := ⟨_, rfl⟩
  rw [← hr]
  have H1 := hide hr
  clear hr
  go_wp2_with fail
  go_ret
  exact ⟨by rw [← H1.out]; rfl, hxw.trans hy1⟩

end Go.Proofs.YtmpoheemnjpoeaaDoor
