/-
  THE LAWS OF CHAPTER 06: THEIR SMALL FUNCTIONS.
-/
import Derived.Test.YtonbgnaopkopoaaDoorKevPk
import Derived.Test.YtonbgnaopkopoaaDoorCntPk
import Derived.Test.YtonbgnaopkopoaaDoorLivePPk
import Derived.Test.YtonbgnaopkopoaaDoorLivePk
namespace Go.Proofs.YtonbgnaopkopoaaDoor
open Go Go.RowKit
set_option linter.all false
set_option linter.unusedVariables false
set_option linter.unusedSimpArgs false
set_option linter.unusedVariables false
set_option linter.unusedSimpArgs false
attribute [local go_sem] run_store_one

def xN (z : Int) : X := .mk 1 tE 0 0 z []
def xBin (op : Int) (x y : X) : X := .mk 6 tE op 0 0 [x, y]
def xNo (x : X) : X := .mk 5 tE 6 0 0 [x]
theorem rx_num2 {w : World} {B : Nat} (z : Int) : RX w B (xN z) [.int .i64 1, .string ⟨#[]⟩, .int .i64 0, .int .i64 0, .int .u64 z, .slice none 0 0] := RX_iff.2 ⟨_, rfl, Sl.nil⟩
set_option maxRecDepth 20000 in
theorem num_any (z : Int) (w : World) (h0 : 0 ≤ z) (h1 : z ≤ 2147483647) :
    Calls Tryd.prog 27 #[.int .i64 z] w fun e w' => e = .returned (.agg #[.int .i64 1, .string ⟨#[]⟩, .int .i64 0, .int .i64 0, .int .u64 z, .slice none 0 0]) ∧ Ext w w' := by
  go_enter Tryd.func27, Tryd.ntmps27
  go_wp2
  refine bodyPost_ret (v := .agg #[.int .i64 1, .string ⟨#[]⟩, .int .i64 0, .int .i64 0, .int .u64 z, .slice none 0 0]) ?_ rfl ⟨rfl, Ext.new _ _⟩
  simp [results, Tryd.results27, go_sem]

set_option maxRecDepth 20000 in
set_option maxHeartbeats 1000000 in
theorem bin_any (B : Nat) (op : Int) (x y : X) (w : World) (cx cy : List Value) (hx : RX w B x cx) (hy : RX w B y cy) (hB : B ≤ w.heap.size) :
    Calls Tryd.prog 26 #[.int .i64 op, .agg cx.toArray, .agg cy.toArray] w fun e w' => ∃ q, e = .returned (.agg #[.int .i64 6, .string ⟨#[]⟩, .int .i64 op, .int .i64 0, .int .u64 0, .slice (some ⟨q, 0, none⟩) 2 2]) ∧ RX w' w'.heap.size (xBin op x y) [.int .i64 6, .string ⟨#[]⟩, .int .i64 op, .int .i64 0, .int .u64 0, .slice (some ⟨q, 0, none⟩) 2 2] ∧ Ext w w' := by
  have HX := hide hx
  have HY := hide hy
  obtain ⟨x5, rfl, hx5⟩ := RX_iff.1 hx
  obtain ⟨y5, rfl, hy5⟩ := RX_iff.1 hy
  have ox := hx5.oneCell
  have oy := hy5.oneCell
  obtain ⟨W1, hW1, hx1, hb1⟩ := box6 w (.int .i64 x.op) (.string x.name) (.int .i64 x.n) (.int .i64 x.w) (.int .u64 x.v) x5 25
  obtain ⟨W2, hW2, hx2, hb2⟩ := box6 W1 (.int .i64 y.op) (.string y.name) (.int .i64 y.n) (.int .i64 y.w) (.int .u64 y.v) y5 25
  obtain ⟨W3, hW3, hx3, hb3⟩ := box6 W2 (.int .i64 0) (.string ⟨#[]⟩) (.int .i64 0) (.int .i64 0) (.int .u64 0) (.slice none 0 0) 25
  obtain ⟨W4, hW4⟩ : ∃ W4, W4 = W3.alloc (.cells #[.int .i64 x.op, .string x.name, .int .i64 x.n, .int .i64 x.w, .int .u64 x.v, x5, .int .i64 y.op, .string y.name, .int .i64 y.n, .int .i64 y.w, .int .u64 y.v, y5] 25) := ⟨_, rfl⟩
  have hb4 : Blk W4 W3.heap.size 25 ([.int .i64 x.op, .string x.name, .int .i64 x.n, .int .i64 x.w, .int .u64 x.v, x5] ++ [.int .i64 y.op, .string y.name, .int .i64 y.n, .int .i64 y.w, .int .u64 y.v, y5]) := by rw [hW4]; exact Blk.new _ _ ([_, _, _, _, _, _] ++ [_, _, _, _, _, _])
  have hx4 : Ext W3 W4 := by rw [hW4]; exact Ext.new _ _
  have z1 := size_box hW1
  have z2 := size_box hW2
  have z3 := size_box hW3
  have hb34 := hb3.ext hx4
  obtain ⟨W5, hW5⟩ : ∃ W5, W5 = (((((W4.setCell ⟨W2.heap.size, 0, none⟩ (.int .i64 6)).setCell ⟨W2.heap.size, 1, none⟩ (.string ⟨#[]⟩)).setCell ⟨W2.heap.size, 2, none⟩ (.int .i64 op)).setCell ⟨W2.heap.size, 3, none⟩ (.int .i64 0)).setCell ⟨W2.heap.size, 4, none⟩ (.int .u64 0)).setCell ⟨W2.heap.size, 5, none⟩ (.slice (some ⟨W3.heap.size, 0, none⟩) 2 2) := ⟨_, rfl⟩
  have hb5 := hb34.store6 (.int .i64 6) (.string ⟨#[]⟩) (.int .i64 op) (.int .i64 0) (.int .u64 0) (.slice (some ⟨W3.heap.size, 0, none⟩) 2 2)
  have hne : W3.heap.size ≠ W2.heap.size := by omega
  have hb4' := (((((hb4.far (p := ⟨W2.heap.size, 0, none⟩) hne (.int .i64 6)).far (p := ⟨W2.heap.size, 1, none⟩) hne (.string ⟨#[]⟩)).far (p := ⟨W2.heap.size, 2, none⟩) hne (.int .i64 op)).far (p := ⟨W2.heap.size, 3, none⟩) hne (.int .i64 0)).far (p := ⟨W2.heap.size, 4, none⟩) hne (.int .u64 0)).far (p := ⟨W2.heap.size, 5, none⟩) hne (.slice (some ⟨W3.heap.size, 0, none⟩) 2 2)
  rw [← hW5] at hb5 hb4'
  have x04 := ((hx1.trans hx2).trans hx3).trans hx4
  have hg2 : w.heap.size ≤ W2.heap.size := by omega
  have x05 : Ext w W5 := by rw [hW5]; exact (((((x04.setCell hg2 _).setCell hg2 _).setCell hg2 _).setCell hg2 _).setCell hg2 _).setCell hg2 _
  have hBw : B ≤ W5.heap.size := Nat.le_trans hB x05.size
  have FIN := hide (And.intro (show RX W5 W5.heap.size (xBin op x y) [.int .i64 6, .string ⟨#[]⟩, .int .i64 op, .int .i64 0, .int .u64 0, .slice (some ⟨W3.heap.size, 0, none⟩) 2 2] from
    RX_iff.2 ⟨_, rfl, Sl.two hb4'.lt rfl rfl hb4'.cells (by intro v hv; simp only [List.cons_append, List.nil_append, List.mem_cons, List.not_mem_nil, or_false] at hv; rcases hv with rfl | rfl | rfl | rfl | rfl | rfl | rfl | rfl | rfl | rfl | rfl | rfl <;> first | exact ox | exact oy | rfl)
      ((HX.out.ext x05 hB).more hBw) ((HY.out.ext x05 hB).more hBw)⟩) x05)
  obtain ⟨c0, c1, c2, c3, c4, c5⟩ := ((hb1.ext hx2).ext hx3).get6
  obtain ⟨d0, d1, d2, d3, d4, d5⟩ := (hb2.ext hx3).get6
  obtain ⟨f0, f1, f2, f3, f4, f5⟩ := hb34.free6
  obtain ⟨m0, m1, m2, m3, m4, m5⟩ := hb34.get6
  obtain ⟨r0, r1, r2, r3, r4, r5⟩ := hb5.get6
  have hV1 := hW1.symm
  have hV2 := hW2.symm
  have hV3 := hW3.symm
  have hV4 := hW4.symm
  have hV5 := hW5.symm
  clear hx hy hx5 hy5 HX HY hW1 hW2 hW3 hW4 hW5 hx1 hx2 hx3 hx4 hb1 hb2 hb3 hb4 hb34 hb5 hb4' x04 x05 hg2 hBw z1 z2 z3 hne
  go_enter Tryd.func26, Tryd.ntmps26
  go_wp2
  refine bodyPost_ret (v := .agg #[.int .i64 6, .string ⟨#[]⟩, .int .i64 op, .int .i64 0, .int .u64 0, .slice (some ⟨W3.heap.size, 0, none⟩) 2 2]) ?_ rfl ⟨_, rfl, FIN.out.1, FIN.out.2⟩
  simp [results, Tryd.results26, go_sem, r0, r1, r2, r3, r4, r5]

def fewE (x : X) (n : Nat) : Prop := (sizeX x ≤ 1000 ∧ deepX x ≤ 100) ∧ n ≤ 50
set_option maxRecDepth 20000 in
set_option maxHeartbeats 1000000 in
theorem fewE_any (B : Nat) (env : List (ByteArray × Int)) (x : X) (w : World) (ve : Value) (cs : List Value) (hR : RX w B x cs) (hS : Sl RNm w B 2 env ve) (hB : B ≤ w.heap.size) (hsz : sizeX x ≤ 1000000000) (hln : env.length ≤ 1000000000) :
    Calls Tryd.prog 13 #[.agg cs.toArray, ve] w fun e w' => e = .returned (.bool (yes (fewE x env.length))) ∧ Ext w w' := by
  have HR := hide hR
  obtain ⟨x5, rfl, hS5⟩ := RX_iff.1 hR
  have o5 := hS5.oneCell
  obtain ⟨ea, ec, rfl, -, -⟩ := hS
  have hdl := deepX_le x
  obtain ⟨W1, e1, hV1, hx1, hs1, c0, c1, c2, c3, c4, c5⟩ := boxL6 w (.int .i64 x.op) (.string x.name) (.int .i64 x.n) (.int .i64 x.w) (.int .u64 x.v) x5 25
  have hB1 : B ≤ W1.heap.size := Nat.le_trans hB hx1.size
  have G1 := hide (show ECalls Tryd.prog 36 #[.agg #[.int .i64 x.op, .string x.name, .int .i64 x.n, .int .i64 x.w, .int .u64 x.v, x5]] W1 (.int .i64 (sizeX x)) from fun w' hw => refSizeX_any B x w' _ (HR.out.ext (hx1.trans hw) hB) (Nat.le_trans hB1 hw.size) hsz)
  have G2 := hide (show ECalls Tryd.prog 29 #[.agg #[.int .i64 x.op, .string x.name, .int .i64 x.n, .int .i64 x.w, .int .u64 x.v, x5]] W1 (.int .i64 (deepX x)) from fun w' hw => refDeepX_any B x w' _ (HR.out.ext (hx1.trans hw) hB) (Nat.le_trans hB1 hw.size) hsz)
  obtain ⟨res, hres⟩ : ∃ res, res = yes (fewE x env.length) := ⟨_, rfl⟩
  rw [← hres]
  have R := hide hres
  unfold fewE at R
  clear hR hS5 hres HR
  generalize sizeX x = s1 at *
  generalize deepX x = s2 at *
  generalize env.length = s3 at *
  by_cases h1 : s1 ≤ 1000
  · by_cases h2 : s2 ≤ 100
    · by_cases h3 : s3 ≤ 50
      · have hres : res = true := R.out.trans (yes_iff.2 ⟨⟨h1, h2⟩, h3⟩)
        subst hres
        have h1b : decide ((s1 : Int) ≤ 1000) = true := decide_eq_true (by omega)
        have h2b : decide ((s2 : Int) ≤ 100) = true := decide_eq_true (by omega)
        have h3b : decide ((s3 : Int) ≤ 50) = true := decide_eq_true (by omega)
        clear R h1 h2 h3
        go_enter Tryd.func13, Tryd.ntmps13
        go_wp2_with (first
          | (go_at_call 36; refine (G1.out.at_ _).mono ?_; rintro _ _ ⟨rfl, e, rfl⟩)
          | (go_at_call 29; refine (G2.out.at_ _).mono ?_; rintro _ _ ⟨rfl, e, rfl⟩))
        go_ret
        exact ⟨rfl, hx1.trans (Later.ext _)⟩
      · have hres : res = false := R.out.trans (yes_no.2 (fun h => h3 h.2))
        subst hres
        have h1b : decide ((s1 : Int) ≤ 1000) = true := decide_eq_true (by omega)
        have h2b : decide ((s2 : Int) ≤ 100) = true := decide_eq_true (by omega)
        have h3' : decide ((s3 : Int) ≤ 50) = false := decide_eq_false (by omega)
        clear R h3 h1 h2
        go_enter Tryd.func13, Tryd.ntmps13
        go_wp2_with (first
          | (go_at_call 36; refine (G1.out.at_ _).mono ?_; rintro _ _ ⟨rfl, e, rfl⟩)
          | (go_at_call 29; refine (G2.out.at_ _).mono ?_; rintro _ _ ⟨rfl, e, rfl⟩))
        go_ret
        exact ⟨rfl, hx1.trans (Later.ext _)⟩
    · have hres : res = false := R.out.trans (yes_no.2 (fun h => h2 h.1.2))
      subst hres
      have h1b : decide ((s1 : Int) ≤ 1000) = true := decide_eq_true (by omega)
      have h2' : decide ((s2 : Int) ≤ 100) = false := decide_eq_false (by omega)
      clear R h2 h1
      go_enter Tryd.func13, Tryd.ntmps13
      go_wp2_with (first
        | (go_at_call 36; refine (G1.out.at_ _).mono ?_; rintro _ _ ⟨rfl, e, rfl⟩)
        | (go_at_call 29; refine (G2.out.at_ _).mono ?_; rintro _ _ ⟨rfl, e, rfl⟩))
      go_ret
      exact ⟨rfl, hx1.trans (Later.ext _)⟩
  · have hres : res = false := R.out.trans (yes_no.2 (fun h => h1 h.1.1))
    subst hres
    have h1' : decide ((s1 : Int) ≤ 1000) = false := decide_eq_false (by omega)
    clear R h1
    go_enter Tryd.func13, Tryd.ntmps13
    go_wp2_with (first
      | (go_at_call 36; refine (G1.out.at_ _).mono ?_; rintro _ _ ⟨rfl, e, rfl⟩)
      | (go_at_call 29; refine (G2.out.at_ _).mono ?_; rintro _ _ ⟨rfl, e, rfl⟩))
    go_ret
    exact ⟨rfl, hx1.trans (Later.ext _)⟩

/-- What 'is' tells. -/
noncomputable def isK (x : X) (n : Int) : Prop := if n < 0 ∨ 2147483647 < n then evalW [] x = (0, 62) else evalW [] x = (n, 0)
set_option maxRecDepth 20000 in
set_option maxHeartbeats 1000000 in
theorem is_any (B : Nat) (x : X) (n : Int) (w : World) (cs : List Value) (hT : Tabs w) (hR : RX w B x cs) (hB : B ≤ w.heap.size) (hsz : sizeX x ≤ 1000000000) (hv : VX x) (hn : isK x n) :
    Calls Tryd.prog 25 #[.agg cs.toArray, .int .i64 n] w fun e w' => e = .returned (.bool true) ∧ Ext w w' := by
  have HR := hide hR
  have HT := hide hT
  obtain ⟨x5, rfl, hS5⟩ := RX_iff.1 hR
  have o5 := hS5.oneCell
  obtain ⟨W1, e1, hV1, hx1, hs1, c0, c1, c2, c3, c4, c5⟩ := boxL6 w (.int .i64 x.op) (.string x.name) (.int .i64 x.n) (.int .i64 x.w) (.int .u64 x.v) x5 25
  have hB1 : B ≤ W1.heap.size := Nat.le_trans hB hx1.size
  have KE := hide (show ECalls Tryd.prog 14 #[.agg #[.int .i64 x.op, .string x.name, .int .i64 x.n, .int .i64 x.w, .int .u64 x.v, x5], .slice none 0 0] W1 (pairV (evalW [] x)) from fun w' hw => kEval_any B [] x w' _ _ (HT.out.ext (hx1.trans hw)) (HR.out.ext (hx1.trans hw) hB) Sl.nil (Nat.le_trans hB1 hw.size) hsz hv (by decide))
  have Q01 := hide hx1
  unfold isK at hn
  clear hT hR hS5 hx1 HR HT hv hsz hB1
  by_cases h0 : n < 0
  · rw [if_pos (.inl h0)] at hn
    rw [hn] at KE
    unfold pairV at KE
    simp only at KE
    clear hn
    go_enter Tryd.func25, Tryd.ntmps25
    go_wp2_with (go_at_call 14; refine (KE.out.at_ _).mono ?_; rintro _ _ ⟨rfl, e, rfl⟩)
    go_ret
    exact ⟨rfl, Q01.out.trans (Later.ext _)⟩
  · have h0' : decide (n < 0) = false := by simpa using h0
    by_cases h1 : 2147483647 < n
    · rw [if_pos (.inr h1)] at hn
      rw [hn] at KE
      unfold pairV at KE
      simp only at KE
      clear hn h0
      go_enter Tryd.func25, Tryd.ntmps25
      go_wp2_with (go_at_call 14; refine (KE.out.at_ _).mono ?_; rintro _ _ ⟨rfl, e, rfl⟩)
      go_ret
      exact ⟨rfl, Q01.out.trans (Later.ext _)⟩
    · rw [if_neg (by omega)] at hn
      rw [hn] at KE
      have h1' : decide (2147483647 < n) = false := by simpa using h1
      unfold pairV at KE
      simp only at KE
      clear hn h0 h1
      go_enter Tryd.func25, Tryd.ntmps25
      go_wp2_with (go_at_call 14; refine (KE.out.at_ _).mono ?_; rintro _ _ ⟨rfl, e, rfl⟩)
      go_ret
      exact ⟨rfl, Q01.out.trans (Later.ext _)⟩

end Go.Proofs.YtonbgnaopkopoaaDoor
