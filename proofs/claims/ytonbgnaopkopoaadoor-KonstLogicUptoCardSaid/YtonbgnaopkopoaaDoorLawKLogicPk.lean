/-
  THE LAW KonstLogic: WHAT IT COMPUTES.
-/
import Derived.Test.YtonbgnaopkopoaaDoorLawKSumsPk
namespace Go.Proofs.YtonbgnaopkopoaaDoor
open Go Go.RowKit
set_option linter.all false
set_option linter.unusedVariables false
set_option linter.unusedSimpArgs false
set_option linter.unusedVariables false
set_option linter.unusedSimpArgs false
attribute [local go_sem] run_store_one

set_option maxRecDepth 20000 in
set_option maxHeartbeats 1000000 in
/-- not, in memory. -/
theorem lnot_any (B : Nat) (x : X) (w : World) (cx : List Value) (hx : RX w B x cx) (hB : B ≤ w.heap.size) :
    Calls Tryd.prog 30 #[.agg cx.toArray] w fun e w' => ∃ q, e = .returned (.agg #[.int .i64 5, .string ⟨#[]⟩, .int .i64 6, .int .i64 0, .int .u64 0, .slice (some ⟨q, 0, none⟩) 1 1]) ∧ RX w' w'.heap.size (xNo x) [.int .i64 5, .string ⟨#[]⟩, .int .i64 6, .int .i64 0, .int .u64 0, .slice (some ⟨q, 0, none⟩) 1 1] ∧ Ext w w' := by
  have HX := hide hx
  obtain ⟨x5, rfl, hx5⟩ := RX_iff.1 hx
  have ox := hx5.oneCell
  obtain ⟨W1, hW1, hx1, hb1⟩ := box6 w (.int .i64 x.op) (.string x.name) (.int .i64 x.n) (.int .i64 x.w) (.int .u64 x.v) x5 25
  obtain ⟨W3, hW3, hx3, hb3⟩ := box6 W1 (.int .i64 0) (.string ⟨#[]⟩) (.int .i64 0) (.int .i64 0) (.int .u64 0) (.slice none 0 0) 25
  obtain ⟨W4, hW4, hx4, hb4⟩ := box6 W3 (.int .i64 x.op) (.string x.name) (.int .i64 x.n) (.int .i64 x.w) (.int .u64 x.v) x5 25
  have z1 := size_box hW1
  have z3 := size_box hW3
  have hb34 := hb3.ext hx4
  obtain ⟨W5, hW5⟩ : ∃ W5, W5 = (((((W4.setCell ⟨W1.heap.size, 0, none⟩ (.int .i64 5)).setCell ⟨W1.heap.size, 1, none⟩ (.string ⟨#[]⟩)).setCell ⟨W1.heap.size, 2, none⟩ (.int .i64 6)).setCell ⟨W1.heap.size, 3, none⟩ (.int .i64 0)).setCell ⟨W1.heap.size, 4, none⟩ (.int .u64 0)).setCell ⟨W1.heap.size, 5, none⟩ (.slice (some ⟨W3.heap.size, 0, none⟩) 1 1) := ⟨_, rfl⟩
  have hb5 := hb34.store6 (.int .i64 5) (.string ⟨#[]⟩) (.int .i64 6) (.int .i64 0) (.int .u64 0) (.slice (some ⟨W3.heap.size, 0, none⟩) 1 1)
  have hne : W3.heap.size ≠ W1.heap.size := by omega
  have hb4' := (((((hb4.far (p := ⟨W1.heap.size, 0, none⟩) hne (.int .i64 5)).far (p := ⟨W1.heap.size, 1, none⟩) hne (.string ⟨#[]⟩)).far (p := ⟨W1.heap.size, 2, none⟩) hne (.int .i64 6)).far (p := ⟨W1.heap.size, 3, none⟩) hne (.int .i64 0)).far (p := ⟨W1.heap.size, 4, none⟩) hne (.int .u64 0)).far (p := ⟨W1.heap.size, 5, none⟩) hne (.slice (some ⟨W3.heap.size, 0, none⟩) 1 1)
  rw [← hW5] at hb5 hb4'
  have x04 := (hx1.trans hx3).trans hx4
  have hg2 : w.heap.size ≤ W1.heap.size := by omega
  have x05 : Ext w W5 := by rw [hW5]; exact (((((x04.setCell hg2 _).setCell hg2 _).setCell hg2 _).setCell hg2 _).setCell hg2 _).setCell hg2 _
  have hBw : B ≤ W5.heap.size := Nat.le_trans hB x05.size
  have FIN := hide (And.intro (show RX W5 W5.heap.size (xNo x) [.int .i64 5, .string ⟨#[]⟩, .int .i64 6, .int .i64 0, .int .u64 0, .slice (some ⟨W3.heap.size, 0, none⟩) 1 1] from
    RX_iff.2 ⟨_, rfl, Sl.one hb4'.lt rfl hb4'.cells (by intro v hv; simp only [List.mem_cons, List.not_mem_nil, or_false] at hv; rcases hv with rfl | rfl | rfl | rfl | rfl | rfl <;> first | exact ox | rfl)
      ((HX.out.ext x05 hB).more hBw)⟩) x05)
  obtain ⟨c0, c1, c2, c3, c4, c5⟩ := ((hb1.ext hx3)).get6
  obtain ⟨f0, f1, f2, f3, f4, f5⟩ := hb34.free6
  obtain ⟨m0, m1, m2, m3, m4, m5⟩ := hb34.get6
  obtain ⟨r0, r1, r2, r3, r4, r5⟩ := hb5.get6
  have hV1 := hW1.symm
  have hV3 := hW3.symm
  have hV4 := hW4.symm
  have hV5 := hW5.symm
  clear hx hx5 HX hW1 hW3 hW4 hW5 hx1 hx3 hx4 hb1 hb3 hb4 hb34 hb5 hb4' x04 x05 hg2 hBw z1 z3 hne
  go_enter Tryd.func30, Tryd.ntmps30
  go_wp2
  refine bodyPost_ret (v := .agg #[.int .i64 5, .string ⟨#[]⟩, .int .i64 6, .int .i64 0, .int .u64 0, .slice (some ⟨W3.heap.size, 0, none⟩) 1 1]) ?_ rfl ⟨_, rfl, FIN.out.1, FIN.out.2⟩
  simp [results, Tryd.results30, go_sem, r0, r1, r2, r3, r4, r5]

theorem eval_ok {env : List (ByteArray × Int)} {x : X} (h : (evalW env x).2 = 0) : checkX x = 0 ∧ evalW env x = evalX (lookE env) x := by
  unfold evalW at *
  by_cases hc : checkX x = 0
  · exact ⟨hc, if_pos hc⟩
  · rw [if_neg hc] at h; cases h
theorem eval_made {env : List (ByteArray × Int)} {z : X} (hs : sizeX z ≤ 65536) (hd : deepX z ≤ 64) (hm : MayX z) : evalW env z = evalX (lookE env) z := if_pos (checkX_zero.2 ⟨hs, hd, hm⟩)
section
variable {env : List (ByteArray × Int)} {x y : X}
theorem logic_not {z : X} (hz : (evalX (lookE env) z).2 = 0) : evalX (lookE env) (xNo z) = (bitK ((evalX (lookE env) z).1 == 0), 0) := by rw [eval_xNo, if_neg (by rw [hz]; decide)]
theorem logic_two {op : Int} {a b : X} (h1 : 14 ≤ op) (h2 : op ≤ 26) (ha : (evalX (lookE env) a).2 = 0) (hb : (evalX (lookE env) b).2 = 0) : evalX (lookE env) (xBin op a b) = toldK (twoK op (evalX (lookE env) a).1 (evalX (lookE env) b).1) := by
  rw [eval_xBin h1 h2, if_neg (by rw [ha]; decide), if_neg (by rw [hb]; decide)]
theorem told_bit (b : Bool) : toldK (bitK b) = (bitK b, 0) := by cases b <;> rfl
/-- What the four are. -/
theorem logic_all (hx : (evalW env x).2 = 0) (hy : (evalW env y).2 = 0) (sx : sizeX x ≤ 1000) (sy : sizeX y ≤ 1000) (dx : deepX x ≤ 50) (dy : deepX y ≤ 50) :
    evalW env (xNo (xBin 25 x y)) = (bitK (bitK ((evalW env x).1 != 0 && (evalW env y).1 != 0) == 0), 0) ∧
    evalW env (xBin 26 (xNo x) (xNo y)) = (bitK (bitK ((evalW env x).1 == 0) != 0 || bitK ((evalW env y).1 == 0) != 0), 0) ∧
    evalW env (xNo (xBin 26 x y)) = (bitK (bitK ((evalW env x).1 != 0 || (evalW env y).1 != 0) == 0), 0) ∧
    evalW env (xNo (xNo x)) = (bitK (bitK ((evalW env x).1 == 0) == 0), 0) := by
  obtain ⟨cx, ex⟩ := eval_ok hx
  obtain ⟨cy, ey⟩ := eval_ok hy
  have mx := (checkX_zero.1 cx).2.2
  have my := (checkX_zero.1 cy).2.2
  rw [ex] at hx ⊢
  rw [ey] at hy ⊢
  have nx := logic_not hx
  have ny := logic_not hy
  have t25 := logic_two (op := 25) (by decide) (by decide) hx hy
  have t26 := logic_two (op := 26) (by decide) (by decide) hx hy
  have u25 : twoK 25 (evalX (lookE env) x).1 (evalX (lookE env) y).1 = bitK ((evalX (lookE env) x).1 != 0 && (evalX (lookE env) y).1 != 0) := rfl
  have u26 : twoK 26 (evalX (lookE env) x).1 (evalX (lookE env) y).1 = bitK ((evalX (lookE env) x).1 != 0 || (evalX (lookE env) y).1 != 0) := rfl
  rw [u25, told_bit] at t25
  rw [u26, told_bit] at t26
  refine ⟨?_, ?_, ?_, ?_⟩
  · rw [eval_made (by rw [size_xNo, size_xBin]; omega) (by rw [deep_xNo, deep_xBin]; omega) (may_xNo (may_xBin (by decide) (by decide) mx my)), logic_not (by rw [t25]), t25]
  · rw [eval_made (by rw [size_xBin, size_xNo, size_xNo]; omega) (by rw [deep_xBin, deep_xNo, deep_xNo]; omega) (may_xBin (by decide) (by decide) (may_xNo mx) (may_xNo my)), logic_two (by decide) (by decide) (by rw [nx]) (by rw [ny]), nx, ny]
    exact told_bit _
  · rw [eval_made (by rw [size_xNo, size_xBin]; omega) (by rw [deep_xNo, deep_xBin]; omega) (may_xNo (may_xBin (by decide) (by decide) mx my)), logic_not (by rw [t26]), t26]
  · rw [eval_made (by rw [size_xNo, size_xNo]; omega) (by rw [deep_xNo, deep_xNo]; omega) (may_xNo (may_xNo mx)), logic_not (by rw [nx]), nx]
end

/-- What is known of the values of the region that asks whether the one not, or the other one not. -/
def logF (cx cy : List Value) (x y : X) (E : Value) (r : Int) (i : Nat) (v : Value) (w : World) : Prop := match i with
  | 0 => v = .agg cx.toArray
  | 1 => ∃ q, v = .agg #[.int .i64 5, .string ⟨#[]⟩, .int .i64 6, .int .i64 0, .int .u64 0, .slice (some ⟨q, 0, none⟩) 1 1] ∧ RX w w.heap.size (xNo x) [.int .i64 5, .string ⟨#[]⟩, .int .i64 6, .int .i64 0, .int .u64 0, .slice (some ⟨q, 0, none⟩) 1 1]
  | 2 => v = .agg cy.toArray
  | 3 => ∃ q, v = .agg #[.int .i64 5, .string ⟨#[]⟩, .int .i64 6, .int .i64 0, .int .u64 0, .slice (some ⟨q, 0, none⟩) 1 1] ∧ RX w w.heap.size (xNo y) [.int .i64 5, .string ⟨#[]⟩, .int .i64 6, .int .i64 0, .int .u64 0, .slice (some ⟨q, 0, none⟩) 1 1]
  | 4 => ∃ q, v = .agg #[.int .i64 6, .string ⟨#[]⟩, .int .i64 26, .int .i64 0, .int .u64 0, .slice (some ⟨q, 0, none⟩) 2 2] ∧ RX w w.heap.size (xBin 26 (xNo x) (xNo y)) [.int .i64 6, .string ⟨#[]⟩, .int .i64 26, .int .i64 0, .int .u64 0, .slice (some ⟨q, 0, none⟩) 2 2]
  | 5 => v = E
  | 6 => v = .tuple #[.int .i64 r, .int .i64 0]
  | 7 => v = .tuple #[.int .i64 r, .int .i64 0]
  | 8 => v = .int .i64 r
  | 9 => v = .int .i64 0
  | 10 => v = .int .i64 r
  | 11 => v = .int .i64 0
  | _ => True
theorem logF_ext {cx cy : List Value} {x y : X} {E v : Value} {r : Int} {i : Nat} {w w' : World} (h : logF cx cy x y E r i v w) (hx : Ext w w') : logF cx cy x y E r i v w' := by
  unfold logF at *
  split at h
  all_goals first | exact h | (obtain ⟨q, h1, h2⟩ := h; exact ⟨q, h1, (h2.ext hx (Nat.le_refl _)).more hx.size⟩)

set_option maxRecDepth 20000 in
set_option maxHeartbeats 8000000 in
theorem lawKLogic_any (B : Nat) (env : List (ByteArray × Int)) (x y : X) (w : World) (ve : Value) (cx cy : List Value) (hT : Tabs w) (hX : RX w B x cx) (hY : RX w B y cy) (hS : Sl RNm w B 2 env ve) (hB : B ≤ w.heap.size) (hsx : sizeX x ≤ 100000000) (hsy : sizeX y ≤ 100000000) (hvx : VX x) (hvy : VX y) (hln : env.length ≤ 1000000000) :
    Calls Tryd.prog 7 #[.agg cx.toArray, .agg cy.toArray, ve] w fun e w' => e = .returned (.bool true) ∧ Ext w w' := by
  have HX := hide hX
  have HY := hide hY
  have HT := hide hT
  have HS := hide hS
  obtain ⟨x5, rfl, hS5⟩ := RX_iff.1 hX
  obtain ⟨y5, rfl, hT5⟩ := RX_iff.1 hY
  have ox := hS5.oneCell
  have oy := hT5.oneCell
  have oe := hS.oneCell
  have zx : sizeX x ≤ 1000000000 := by omega
  have zy : sizeX y ≤ 1000000000 := by omega
  obtain ⟨W1, e1, hV1, hx1, -, c0, c1, c2, c3, c4, c5⟩ := boxL6 w (.int .i64 x.op) (.string x.name) (.int .i64 x.n) (.int .i64 x.w) (.int .u64 x.v) x5 25
  obtain ⟨W2, e2, hV2, hx2, -, d0, d1, d2, d3, d4, d5⟩ := boxL6 e1.w (.int .i64 y.op) (.string y.name) (.int .i64 y.n) (.int .i64 y.w) (.int .u64 y.v) y5 25
  have q12 := e1.ext.trans hx2
  have q02 := hx1.trans q12
  have c0 := cellL c0 q12
  have c1 := cellL c1 q12
  have c2 := cellL c2 q12
  have c3 := cellL c3 q12
  have c4 := cellL c4 q12
  have c5 := cellL c5 q12
  have hB2 : B ≤ W2.heap.size := Nat.le_trans hB q02.size
  have GL := hide (show ECalls Tryd.prog 12 #[] W2 (.bool true) from fun w' hw => live6_any w' (HT.out.ext (q02.trans hw)))
  have GFX := hide (show ECalls Tryd.prog 13 #[.agg #[.int .i64 x.op, .string x.name, .int .i64 x.n, .int .i64 x.w, .int .u64 x.v, x5], ve] W2 (.bool (yes (fewE x env.length))) from fun w' hw => fewE_any B env x w' ve _ (HX.out.ext (q02.trans hw) hB) (HS.out.extN (q02.trans hw) hB) (Nat.le_trans hB2 hw.size) zx hln)
  have GDX := hide (show ECalls Tryd.prog 29 #[.agg #[.int .i64 x.op, .string x.name, .int .i64 x.n, .int .i64 x.w, .int .u64 x.v, x5]] W2 (.int .i64 (deepX x)) from fun w' hw => refDeepX_any B x w' _ (HX.out.ext (q02.trans hw) hB) (Nat.le_trans hB2 hw.size) zx)
  have KEX := hide (show ECalls Tryd.prog 14 #[.agg #[.int .i64 x.op, .string x.name, .int .i64 x.n, .int .i64 x.w, .int .u64 x.v, x5], ve] W2 (pairV (evalW env x)) from fun w' hw => kEval_any B env x w' ve _ (HT.out.ext (q02.trans hw)) (HX.out.ext (q02.trans hw) hB) (HS.out.extN (q02.trans hw) hB) (Nat.le_trans hB2 hw.size) zx hvx hln)
  have GFY := hide (show ECalls Tryd.prog 13 #[.agg #[.int .i64 y.op, .string y.name, .int .i64 y.n, .int .i64 y.w, .int .u64 y.v, y5], ve] W2 (.bool (yes (fewE y env.length))) from fun w' hw => fewE_any B env y w' ve _ (HY.out.ext (q02.trans hw) hB) (HS.out.extN (q02.trans hw) hB) (Nat.le_trans hB2 hw.size) zy hln)
  have GDY := hide (show ECalls Tryd.prog 29 #[.agg #[.int .i64 y.op, .string y.name, .int .i64 y.n, .int .i64 y.w, .int .u64 y.v, y5]] W2 (.int .i64 (deepX y)) from fun w' hw => refDeepX_any B y w' _ (HY.out.ext (q02.trans hw) hB) (Nat.le_trans hB2 hw.size) zy)
  have KEY := hide (show ECalls Tryd.prog 14 #[.agg #[.int .i64 y.op, .string y.name, .int .i64 y.n, .int .i64 y.w, .int .u64 y.v, y5], ve] W2 (pairV (evalW env y)) from fun w' hw => kEval_any B env y w' ve _ (HT.out.ext (q02.trans hw)) (HY.out.ext (q02.trans hw) hB) (HS.out.extN (q02.trans hw) hB) (Nat.le_trans hB2 hw.size) zy hvy hln)
  have EV := hide (show ∀ (z : X) (cs : List Value) (w' : World) (r : Int), Ext W2 w' → RX w' w'.heap.size z cs → sizeX z ≤ 1000000000 → VX z → evalW env z = (r, 0) → Calls Tryd.prog 14 #[.agg cs.toArray, ve] w' fun e w'' => e = .returned (.tuple #[.int .i64 r, .int .i64 0]) ∧ Ext w' w'' from
    fun z cs w' r hw hR hs hv he => by
      have h := kEval_any w'.heap.size env z w' ve cs (HT.out.ext (q02.trans hw)) hR ((HS.out.extN (q02.trans hw) hB).keep (fun p hp => rfl) (Nat.le_trans hB2 hw.size) (fun _ _ _ h => h)) (Nat.le_refl _) hs hv hln
      rw [he] at h
      exact h)
  have RXX := hide (show ∀ w', Ext W2 w' → RX w' w'.heap.size x [.int .i64 x.op, .string x.name, .int .i64 x.n, .int .i64 x.w, .int .u64 x.v, x5] from fun w' hw => (HX.out.ext (q02.trans hw) hB).more (Nat.le_trans hB2 hw.size))
  have RYY := hide (show ∀ w', Ext W2 w' → RX w' w'.heap.size y [.int .i64 y.op, .string y.name, .int .i64 y.n, .int .i64 y.w, .int .u64 y.v, y5] from fun w' hw => (HY.out.ext (q02.trans hw) hB).more (Nat.le_trans hB2 hw.size))
  have Q02 := hide q02
  have LA := fun h1 h2 h3 h4 h5 h6 => logic_all (env := env) (x := x) (y := y) h1 h2 h3 h4 h5 h6
  have fx : yes (fewE x env.length) = true → sizeX x ≤ 1000 := fun h => (yes_iff.1 h).1.1
  have fy : yes (fewE y env.length) = true → sizeX y ≤ 1000 := fun h => (yes_iff.1 h).1.1
  clear hT hX hY hS hS5 hT5 hx1 hx2 q12 q02 HX HY HT HS hln hB2
  cases bx : yes (fewE x env.length) with
  | false =>
    rw [bx] at GFX
    clear LA fx fy bx EV RXX RYY
    go_enter Tryd.func7, Tryd.ntmps7
    go_wp2_with (first
      | (go_at_call 12; with_reducible refine (GL.out.at_ _).mono ?_; rintro _ _ ⟨rfl, e, rfl⟩)
      | (go_at_call 13; with_reducible refine (GFX.out.at_ _).mono ?_; rintro _ _ ⟨rfl, e, rfl⟩)
      | (go_at_call 13; with_reducible refine (GFY.out.at_ _).mono ?_; rintro _ _ ⟨rfl, e, rfl⟩)
      | (go_at_call 29; with_reducible refine (GDX.out.at_ _).mono ?_; rintro _ _ ⟨rfl, e, rfl⟩)
      | (go_at_call 29; with_reducible refine (GDY.out.at_ _).mono ?_; rintro _ _ ⟨rfl, e, rfl⟩)
      | (go_at_call 14; with_reducible refine (KEX.out.at_ _).mono ?_; rintro _ _ ⟨rfl, e, rfl⟩)
      | (go_at_call 14; with_reducible refine (KEY.out.at_ _).mono ?_; rintro _ _ ⟨rfl, e, rfl⟩))
    all_goals
      go_ret
      exact ⟨rfl, Q02.out.trans (Later.ext _)⟩
  | true =>
  have sx := fx bx
  rw [bx] at GFX
  cases by_ : yes (fewE y env.length) with
  | false =>
    rw [by_] at GFY
    clear LA fx fy bx by_ EV RXX RYY sx
    go_enter Tryd.func7, Tryd.ntmps7
    go_wp2_with (first
      | (go_at_call 12; with_reducible refine (GL.out.at_ _).mono ?_; rintro _ _ ⟨rfl, e, rfl⟩)
      | (go_at_call 13; with_reducible refine (GFX.out.at_ _).mono ?_; rintro _ _ ⟨rfl, e, rfl⟩)
      | (go_at_call 13; with_reducible refine (GFY.out.at_ _).mono ?_; rintro _ _ ⟨rfl, e, rfl⟩)
      | (go_at_call 29; with_reducible refine (GDX.out.at_ _).mono ?_; rintro _ _ ⟨rfl, e, rfl⟩)
      | (go_at_call 29; with_reducible refine (GDY.out.at_ _).mono ?_; rintro _ _ ⟨rfl, e, rfl⟩)
      | (go_at_call 14; with_reducible refine (KEX.out.at_ _).mono ?_; rintro _ _ ⟨rfl, e, rfl⟩)
      | (go_at_call 14; with_reducible refine (KEY.out.at_ _).mono ?_; rintro _ _ ⟨rfl, e, rfl⟩))
    all_goals
      go_ret
      exact ⟨rfl, Q02.out.trans (Later.ext _)⟩
  | true =>
  have sy := fy by_
  rw [by_] at GFY
  clear fx fy bx by_
  by_cases dx : 50 < deepX x
  · have d1 : decide ((50 : Int) < (deepX x : Nat)) = true := decide_eq_true (by omega)
    clear LA EV RXX RYY sx sy dx
    generalize deepX x = nx at *
    go_enter Tryd.func7, Tryd.ntmps7
    go_wp2_with (first
      | (go_at_call 12; with_reducible refine (GL.out.at_ _).mono ?_; rintro _ _ ⟨rfl, e, rfl⟩)
      | (go_at_call 13; with_reducible refine (GFX.out.at_ _).mono ?_; rintro _ _ ⟨rfl, e, rfl⟩)
      | (go_at_call 13; with_reducible refine (GFY.out.at_ _).mono ?_; rintro _ _ ⟨rfl, e, rfl⟩)
      | (go_at_call 29; with_reducible refine (GDX.out.at_ _).mono ?_; rintro _ _ ⟨rfl, e, rfl⟩)
      | (go_at_call 29; with_reducible refine (GDY.out.at_ _).mono ?_; rintro _ _ ⟨rfl, e, rfl⟩)
      | (go_at_call 14; with_reducible refine (KEX.out.at_ _).mono ?_; rintro _ _ ⟨rfl, e, rfl⟩)
      | (go_at_call 14; with_reducible refine (KEY.out.at_ _).mono ?_; rintro _ _ ⟨rfl, e, rfl⟩))
    all_goals
      go_ret
      exact ⟨rfl, Q02.out.trans (Later.ext _)⟩
  have d1 : decide ((50 : Int) < (deepX x : Nat)) = false := decide_eq_false (by omega)
  by_cases dy : 50 < deepX y
  · have d2 : decide ((50 : Int) < (deepX y : Nat)) = true := decide_eq_true (by omega)
    clear LA EV RXX RYY sx sy dx dy
    generalize deepX x = nx at *
    generalize deepX y = ny at *
    go_enter Tryd.func7, Tryd.ntmps7
    go_wp2_with (first
      | (go_at_call 12; with_reducible refine (GL.out.at_ _).mono ?_; rintro _ _ ⟨rfl, e, rfl⟩)
      | (go_at_call 13; with_reducible refine (GFX.out.at_ _).mono ?_; rintro _ _ ⟨rfl, e, rfl⟩)
      | (go_at_call 13; with_reducible refine (GFY.out.at_ _).mono ?_; rintro _ _ ⟨rfl, e, rfl⟩)
      | (go_at_call 29; with_reducible refine (GDX.out.at_ _).mono ?_; rintro _ _ ⟨rfl, e, rfl⟩)
      | (go_at_call 29; with_reducible refine (GDY.out.at_ _).mono ?_; rintro _ _ ⟨rfl, e, rfl⟩)
      | (go_at_call 14; with_reducible refine (KEX.out.at_ _).mono ?_; rintro _ _ ⟨rfl, e, rfl⟩)
      | (go_at_call 14; with_reducible refine (KEY.out.at_ _).mono ?_; rintro _ _ ⟨rfl, e, rfl⟩))
    all_goals
      go_ret
      exact ⟨rfl, Q02.out.trans (Later.ext _)⟩
  have d2 : decide ((50 : Int) < (deepX y : Nat)) = false := decide_eq_false (by omega)
  by_cases hx0 : (evalW env x).2 = 0
  rotate_left
  · have g0 : ((evalW env x).2 == 0) = false := by simpa using hx0
    have g1 : ((evalW env x).2 != 0) = true := by simpa using hx0
    clear LA EV RXX RYY sx sy dx dy hx0
    generalize deepX x = nx at *
    generalize deepX y = ny at *
    generalize evalW env x = r at *
    generalize evalW env y = s at *
    unfold pairV at *
    go_enter Tryd.func7, Tryd.ntmps7
    go_wp2_with (first
      | (go_at_call 12; with_reducible refine (GL.out.at_ _).mono ?_; rintro _ _ ⟨rfl, e, rfl⟩)
      | (go_at_call 13; with_reducible refine (GFX.out.at_ _).mono ?_; rintro _ _ ⟨rfl, e, rfl⟩)
      | (go_at_call 13; with_reducible refine (GFY.out.at_ _).mono ?_; rintro _ _ ⟨rfl, e, rfl⟩)
      | (go_at_call 29; with_reducible refine (GDX.out.at_ _).mono ?_; rintro _ _ ⟨rfl, e, rfl⟩)
      | (go_at_call 29; with_reducible refine (GDY.out.at_ _).mono ?_; rintro _ _ ⟨rfl, e, rfl⟩)
      | (go_at_call 14; with_reducible refine (KEX.out.at_ _).mono ?_; rintro _ _ ⟨rfl, e, rfl⟩)
      | (go_at_call 14; with_reducible refine (KEY.out.at_ _).mono ?_; rintro _ _ ⟨rfl, e, rfl⟩))
    all_goals
      go_ret
      exact ⟨rfl, Q02.out.trans (Later.ext _)⟩
  by_cases hy0 : (evalW env y).2 = 0
  rotate_left
  · have g0 : ((evalW env y).2 == 0) = false := by simpa using hy0
    have g1 : ((evalW env y).2 != 0) = true := by simpa using hy0
    unfold pairV at *
    rw [hx0] at KEX
    clear LA EV RXX RYY sx sy dx dy hx0 hy0
    generalize deepX x = nx at *
    generalize deepX y = ny at *
    generalize evalW env x = r at *
    generalize evalW env y = s at *
    go_enter Tryd.func7, Tryd.ntmps7
    go_wp2_with (first
      | (go_at_call 12; with_reducible refine (GL.out.at_ _).mono ?_; rintro _ _ ⟨rfl, e, rfl⟩)
      | (go_at_call 13; with_reducible refine (GFX.out.at_ _).mono ?_; rintro _ _ ⟨rfl, e, rfl⟩)
      | (go_at_call 13; with_reducible refine (GFY.out.at_ _).mono ?_; rintro _ _ ⟨rfl, e, rfl⟩)
      | (go_at_call 29; with_reducible refine (GDX.out.at_ _).mono ?_; rintro _ _ ⟨rfl, e, rfl⟩)
      | (go_at_call 29; with_reducible refine (GDY.out.at_ _).mono ?_; rintro _ _ ⟨rfl, e, rfl⟩)
      | (go_at_call 14; with_reducible refine (KEX.out.at_ _).mono ?_; rintro _ _ ⟨rfl, e, rfl⟩)
      | (go_at_call 14; with_reducible refine (KEY.out.at_ _).mono ?_; rintro _ _ ⟨rfl, e, rfl⟩))
    all_goals
      go_ret
      exact ⟨rfl, Q02.out.trans (Later.ext _)⟩
  obtain ⟨L1, L2, L3, L4⟩ := LA hx0 hy0 sx sy (by omega) (by omega)
  unfold pairV at *
  rw [hx0] at KEX
  rw [hy0] at KEY
  have SZ1 : sizeX (xNo (xBin 25 x y)) ≤ 1000000000 := by rw [size_xNo, size_xBin]; omega
  have SZ2 : sizeX (xBin 26 (xNo x) (xNo y)) ≤ 1000000000 := by rw [size_xBin, size_xNo, size_xNo]; omega
  have SZ3 : sizeX (xNo (xBin 26 x y)) ≤ 1000000000 := by rw [size_xNo, size_xBin]; omega
  have SZ4 : sizeX (xNo (xNo x)) ≤ 1000000000 := by rw [size_xNo, size_xNo]; omega
  generalize (evalW env x).1 = a at *
  generalize (evalW env y).1 = b at *
  generalize deepX x = nx at *
  generalize deepX y = ny at *
  obtain ⟨p, hp⟩ : ∃ p, p = bitK (bitK (a != 0 && b != 0) == 0) := ⟨_, rfl⟩
  obtain ⟨q, hq⟩ : ∃ q, q = bitK (bitK (a == 0) != 0 || bitK (b == 0) != 0) := ⟨_, rfl⟩
  obtain ⟨r, hr⟩ : ∃ r, r = bitK (bitK (a != 0 || b != 0) == 0) := ⟨_, rfl⟩
  obtain ⟨s, hs⟩ : ∃ s, s = bitK (bitK (a == 0) == 0) := ⟨_, rfl⟩
  rw [← hp] at L1
  rw [← hq] at L2
  rw [← hr] at L3
  rw [← hs] at L4
  have HP := hide hp
  have HQ' := hide hq
  have HR := hide hr
  have HS' := hide hs
  have E1 := hide (fun cs w' hw hR => EV.out _ cs w' _ hw hR SZ1 (vx_xNo (vx_xBin hvx hvy)) L1)
  have E2 := hide (fun cs w' hw hR => EV.out _ cs w' _ hw hR SZ2 (vx_xBin (vx_xNo hvx) (vx_xNo hvy)) L2)
  have E3 := hide (fun cs w' hw hR => EV.out _ cs w' _ hw hR SZ3 (vx_xNo (vx_xBin hvx hvy)) L3)
  have E4 := hide (fun cs w' hw hR => EV.out _ cs w' _ hw hR SZ4 (vx_xNo (vx_xNo hvx)) L4)
  have LB0 := hide (fun (w : World) => lbit_any false w)
  have LB1 := hide (fun (w : World) => lbit_any true w)
  rw [show bitK false = 0 from rfl] at LB0
  rw [show bitK true = 1 from rfl] at LB1
  clear hp hq hr hs EV L1 L2 L3 L4 SZ1 SZ2 SZ3 SZ4 hvx hvy hx0 hy0 sx sy dx dy
  go_enter Tryd.func7, Tryd.ntmps7
  go_wp2_with (first
    | (go_at_call 12; with_reducible refine (GL.out.at_ _).mono ?_; rintro _ _ ⟨rfl, e, rfl⟩)
    | (go_at_call 13; with_reducible refine (GFX.out.at_ _).mono ?_; rintro _ _ ⟨rfl, e, rfl⟩)
    | (go_at_call 13; with_reducible refine (GFY.out.at_ _).mono ?_; rintro _ _ ⟨rfl, e, rfl⟩)
    | (go_at_call 29; with_reducible refine (GDX.out.at_ _).mono ?_; rintro _ _ ⟨rfl, e, rfl⟩)
    | (go_at_call 29; with_reducible refine (GDY.out.at_ _).mono ?_; rintro _ _ ⟨rfl, e, rfl⟩)
    | (go_at_call 14; with_reducible refine (KEX.out.at_ _).mono ?_; rintro _ _ ⟨rfl, e, rfl⟩)
    | (go_at_call 14; with_reducible refine (KEY.out.at_ _).mono ?_; rintro _ _ ⟨rfl, e, rfl⟩)
    | (go_at_call 26; refine (bin_any _ _ x y _ _ _ (RXX.out _ (Later.ext _)) (RYY.out _ (Later.ext _)) (Nat.le_refl _)).mono ?_; rintro _ wz ⟨g, rfl, hq, xq⟩; obtain ⟨e, rfl⟩ := Later.mk_ex ((Later.ext _).trans xq); have HQ := hide hq; clear hq xq)
    | (go_at_call 30; with_reducible refine (lnot_any _ x _ _ (RXX.out _ (Later.ext _)) (Nat.le_refl _)).mono ?_; rintro _ wz ⟨g, rfl, hq, xq⟩; obtain ⟨e, rfl⟩ := Later.mk_ex ((Later.ext _).trans xq); have HQ := hide hq; clear hq xq)
    | (go_at_call 30; refine (lnot_any _ _ _ [_, _, _, _, _, _] HQ.out (Nat.le_refl _)).mono ?_; clear HQ; rintro _ wz ⟨g, rfl, hq, xq⟩; obtain ⟨e, rfl⟩ := Later.mk_ex ((Later.ext _).trans xq); have HQ := hide hq; clear hq xq)
    | (go_at_call 14; refine (E1.out [_, _, _, _, _, _] _ (Later.ext _) HQ.out).mono ?_; clear HQ; rintro _ wz ⟨rfl, xq⟩; obtain ⟨e, rfl⟩ := Later.mk_ex ((Later.ext _).trans xq); clear xq))
  refine wp_region_facts_g (W := W2) (logF [.int .i64 x.op, .string x.name, .int .i64 x.n, .int .i64 x.w, .int .u64 x.v, x5] [.int .i64 y.op, .string y.name, .int .i64 y.n, .int .i64 y.w, .int .u64 y.v, y5] x y ve q) (by kernel_rfl) (by kernel_rfl) ?_ (Later.ext _) (fun i v w w' h hx => logF_ext h hx) ?_ ?_
  · simp [GuardsMet, logF]
  · refine ⟨?_, ?_, ?_, ?_, ?_, ?_, ?_, ?_, ?_, ?_, ?_, ?_, trivial⟩
    · intro A wa hxa hd h0
      obtain ⟨ea, rfl⟩ := Later.mk_ex hxa
      have r3 := rest_at h0 3 (by kernel_rfl)
      simp at r3
      clear hd h0
      go_simp
      first | exact ⟨_, rfl, Ext.refl _, rfl⟩ | exact ⟨Ext.refl _, rfl⟩ | exact rfl | exact ⟨_, rfl, rfl⟩
    · intro A wa hxa hd h0
      obtain ⟨ea, rfl⟩ := Later.mk_ex hxa
      have q0 := depOn hd 0 71 (by kernel_rfl) rfl
      simp [logF] at q0
      clear hd h0
      go_simp
      refine (lnot_any ea.w.heap.size x ea.w [_, _, _, _, _, _] (RXX.out ea.w ea.ext) (Nat.le_refl _)).mono ?_
      rintro e w2 ⟨g, rfl, hR, hx⟩
      go_simp
      first | exact ⟨_, rfl, hx, ⟨g, rfl, hR⟩⟩ | exact ⟨hx, ⟨g, rfl, hR⟩⟩ | exact ⟨g, rfl, hR⟩ | exact ⟨_, rfl, ⟨g, rfl, hR⟩⟩
    · intro A wa hxa hd h0
      obtain ⟨ea, rfl⟩ := Later.mk_ex hxa
      have r4 := rest_at h0 4 (by kernel_rfl)
      simp at r4
      clear hd h0
      go_simp
      first | exact ⟨_, rfl, Ext.refl _, rfl⟩ | exact ⟨Ext.refl _, rfl⟩ | exact rfl | exact ⟨_, rfl, rfl⟩
    · intro A wa hxa hd h0
      obtain ⟨ea, rfl⟩ := Later.mk_ex hxa
      have q2 := depOn hd 2 73 (by kernel_rfl) rfl
      simp [logF] at q2
      clear hd h0
      go_simp
      refine (lnot_any ea.w.heap.size y ea.w [_, _, _, _, _, _] (RYY.out ea.w ea.ext) (Nat.le_refl _)).mono ?_
      rintro e w2 ⟨g, rfl, hR, hx⟩
      go_simp
      first | exact ⟨_, rfl, hx, ⟨g, rfl, hR⟩⟩ | exact ⟨hx, ⟨g, rfl, hR⟩⟩ | exact ⟨g, rfl, hR⟩ | exact ⟨_, rfl, ⟨g, rfl, hR⟩⟩
    · intro A wa hxa hd h0
      obtain ⟨ea, rfl⟩ := Later.mk_ex hxa
      obtain ⟨g1, q1, hR1⟩ := depOn hd 1 72 (by kernel_rfl) rfl
      simp at q1
      obtain ⟨g3, q3, hR3⟩ := depOn hd 3 74 (by kernel_rfl) rfl
      simp at q3
      clear hd h0
      go_simp
      refine (bin_any ea.w.heap.size 26 (xNo x) (xNo y) ea.w [_, _, _, _, _, _] [_, _, _, _, _, _] hR1 hR3 (Nat.le_refl _)).mono ?_
      rintro e w2 ⟨g, rfl, hR, hx⟩
      go_simp
      first | exact ⟨_, rfl, hx, ⟨g, rfl, hR⟩⟩ | exact ⟨hx, ⟨g, rfl, hR⟩⟩ | exact ⟨g, rfl, hR⟩ | exact ⟨_, rfl, ⟨g, rfl, hR⟩⟩
    · intro A wa hxa hd h0
      obtain ⟨ea, rfl⟩ := Later.mk_ex hxa
      have r2 := rest_at h0 2 (by kernel_rfl)
      simp at r2
      clear hd h0
      go_simp
      first | exact ⟨_, rfl, Ext.refl _, rfl⟩ | exact ⟨Ext.refl _, rfl⟩ | exact rfl | exact ⟨_, rfl, rfl⟩
    · intro A wa hxa hd h0
      obtain ⟨ea, rfl⟩ := Later.mk_ex hxa
      obtain ⟨g4, q4, hR4⟩ := depOn hd 4 75 (by kernel_rfl) rfl
      simp at q4
      have q5 := depOn hd 5 76 (by kernel_rfl) rfl
      simp [logF] at q5
      clear hd h0
      go_simp
      refine (E2.out [_, _, _, _, _, _] ea.w ea.ext hR4).mono ?_
      rintro e w2 ⟨rfl, hx⟩
      go_simp
      first | exact ⟨_, rfl, hx, rfl⟩ | exact ⟨hx, rfl⟩ | exact rfl | exact ⟨_, rfl, rfl⟩
    · intro A wa hxa hd h0
      obtain ⟨ea, rfl⟩ := Later.mk_ex hxa
      have q6 := depOn hd 6 77 (by kernel_rfl) rfl
      simp [logF] at q6
      clear hd h0
      go_simp
      first | exact ⟨_, rfl, Ext.refl _, rfl⟩ | exact ⟨Ext.refl _, rfl⟩ | exact rfl | exact ⟨_, rfl, rfl⟩
    · intro A wa hxa hd h0
      obtain ⟨ea, rfl⟩ := Later.mk_ex hxa
      have q7 := depOn hd 7 70 (by kernel_rfl) rfl
      simp [logF] at q7
      clear hd h0
      go_simp
      first | exact ⟨_, rfl, Ext.refl _, rfl⟩ | exact ⟨Ext.refl _, rfl⟩ | exact rfl | exact ⟨_, rfl, rfl⟩
    · intro A wa hxa hd h0
      obtain ⟨ea, rfl⟩ := Later.mk_ex hxa
      have q7 := depOn hd 7 70 (by kernel_rfl) rfl
      simp [logF] at q7
      clear hd h0
      go_simp
      first | exact ⟨_, rfl, Ext.refl _, rfl⟩ | exact ⟨Ext.refl _, rfl⟩ | exact rfl | exact ⟨_, rfl, rfl⟩
    · intro A wa hxa hd h0
      obtain ⟨ea, rfl⟩ := Later.mk_ex hxa
      have q8 := depOn hd 8 78 (by kernel_rfl) rfl
      simp [logF] at q8
      clear hd h0
      go_simp
      first | exact ⟨_, rfl, Ext.refl _, rfl⟩ | exact ⟨Ext.refl _, rfl⟩ | exact rfl | exact ⟨_, rfl, rfl⟩
    · intro A wa hxa hd h0
      obtain ⟨ea, rfl⟩ := Later.mk_ex hxa
      have q9 := depOn hd 9 79 (by kernel_rfl) rfl
      simp [logF] at q9
      clear hd h0
      go_simp
      first | exact ⟨_, rfl, Ext.refl _, rfl⟩ | exact ⟨Ext.refl _, rfl⟩ | exact rfl | exact ⟨_, rfl, rfl⟩
  · intro A wa hk
    obtain ⟨hxa, hsz, hdf, hdn, hrs⟩ := hk
    obtain ⟨ea, rfl⟩ := Later.mk_ex hxa
    have k0 := rest_at hrs 0 (by kernel_rfl)
    simp at k0
    have k1 := rest_at hrs 1 (by kernel_rfl)
    simp at k1
    have k2 := rest_at hrs 2 (by kernel_rfl)
    simp at k2
    have k3 := rest_at hrs 3 (by kernel_rfl)
    simp at k3
    have k4 := rest_at hrs 4 (by kernel_rfl)
    simp at k4
    have k6 := rest_at hrs 6 (by kernel_rfl)
    simp at k6
    have k7 := rest_at hrs 7 (by kernel_rfl)
    simp at k7
    have k8 := rest_at hrs 8 (by kernel_rfl)
    simp at k8
    have k9 := rest_at hrs 9 (by kernel_rfl)
    simp at k9
    have k10 := rest_at hrs 10 (by kernel_rfl)
    simp at k10
    have k11 := rest_at hrs 11 (by kernel_rfl)
    simp at k11
    have k12 := rest_at hrs 12 (by kernel_rfl)
    simp at k12
    have k13 := rest_at hrs 13 (by kernel_rfl)
    simp at k13
    have k14 : A.tmps.getD 14 undef = .int .i64 q := hdn 10 14 rfl rfl
    have k15 : A.tmps.getD 15 undef = .int .i64 0 := hdn 11 15 rfl rfl
    clear hdn hrs
    rw [act_lit hsz hdf]
    simp [List.range, List.range.loop] at k0 k1 k2 k3 k4 k6 k7 k8 k9 k10 k11 k12 k13 k14 k15
    simp [List.range, List.range.loop, k0, k1, k2, k3, k4, k6, k7, k8, k9, k10, k11, k12, k13, k14, k15]
    clear k0 k1 k2 k3 k4 k6 k7 k8 k9 k10 k11 k12 k13 k14 k15 hsz hdf
    generalize A.tmps[5]?.getD undef = A5 at *
    generalize A.tmps[16]?.getD undef = A16 at *
    generalize A.tmps[17]?.getD undef = A17 at *
    generalize A.tmps[18]?.getD undef = A18 at *
    generalize A.tmps[19]?.getD undef = A19 at *
    generalize A.tmps[20]?.getD undef = A20 at *
    generalize A.tmps[21]?.getD undef = A21 at *
    generalize A.tmps[22]?.getD undef = A22 at *
    generalize A.tmps[23]?.getD undef = A23 at *
    generalize A.tmps[24]?.getD undef = A24 at *
    generalize A.tmps[25]?.getD undef = A25 at *
    generalize A.tmps[26]?.getD undef = A26 at *
    generalize A.tmps[27]?.getD undef = A27 at *
    generalize A.tmps[28]?.getD undef = A28 at *
    generalize A.tmps[29]?.getD undef = A29 at *
    generalize A.tmps[30]?.getD undef = A30 at *
    generalize A.tmps[31]?.getD undef = A31 at *
    generalize A.tmps[32]?.getD undef = A32 at *
    generalize A.tmps[33]?.getD undef = A33 at *
    generalize A.tmps[34]?.getD undef = A34 at *
    generalize A.tmps[35]?.getD undef = A35 at *
    generalize A.tmps[36]?.getD undef = A36 at *
    generalize A.tmps[37]?.getD undef = A37 at *
    generalize A.tmps[38]?.getD undef = A38 at *
    generalize A.tmps[39]?.getD undef = A39 at *
    generalize A.tmps[40]?.getD undef = A40 at *
    generalize A.tmps[41]?.getD undef = A41 at *
    generalize A.tmps[42]?.getD undef = A42 at *
    generalize A.tmps[43]?.getD undef = A43 at *
    generalize A.tmps[44]?.getD undef = A44 at *
    generalize A.tmps[45]?.getD undef = A45 at *
    generalize A.tmps[46]?.getD undef = A46 at *
    generalize A.tmps[47]?.getD undef = A47 at *
    generalize A.tmps[48]?.getD undef = A48 at *
    generalize A.tmps[49]?.getD undef = A49 at *
    generalize A.tmps[50]?.getD undef = A50 at *
    generalize A.tmps[51]?.getD undef = A51 at *
    generalize A.tmps[52]?.getD undef = A52 at *
    generalize A.tmps[53]?.getD undef = A53 at *
    generalize A.tmps[54]?.getD undef = A54 at *
    generalize A.tmps[55]?.getD undef = A55 at *
    generalize A.tmps[56]?.getD undef = A56 at *
    generalize A.tmps[57]?.getD undef = A57 at *
    generalize A.tmps[58]?.getD undef = A58 at *
    generalize A.tmps[59]?.getD undef = A59 at *
    generalize A.tmps[60]?.getD undef = A60 at *
    generalize A.tmps[61]?.getD undef = A61 at *
    generalize A.tmps[62]?.getD undef = A62 at *
    generalize A.tmps[63]?.getD undef = A63 at *
    generalize A.tmps[64]?.getD undef = A64 at *
    generalize A.tmps[65]?.getD undef = A65 at *
    generalize A.tmps[66]?.getD undef = A66 at *
    generalize A.tmps[67]?.getD undef = A67 at *
    generalize A.tmps[68]?.getD undef = A68 at *
    generalize A.tmps[69]?.getD undef = A69 at *
    generalize A.tmps[70]?.getD undef = A70 at *
    generalize A.tmps[71]?.getD undef = A71 at *
    generalize A.tmps[72]?.getD undef = A72 at *
    generalize A.tmps[73]?.getD undef = A73 at *
    generalize A.tmps[74]?.getD undef = A74 at *
    generalize A.tmps[75]?.getD undef = A75 at *
    generalize A.tmps[76]?.getD undef = A76 at *
    generalize A.tmps[77]?.getD undef = A77 at *
    generalize A.tmps[78]?.getD undef = A78 at *
    generalize A.tmps[79]?.getD undef = A79 at *
    generalize A.tmps[80]?.getD undef = A80 at *
    generalize A.tmps[81]?.getD undef = A81 at *
    generalize A.tmps[82]?.getD undef = A82 at *
    generalize A.tmps[83]?.getD undef = A83 at *
    generalize A.tmps[84]?.getD undef = A84 at *
    generalize A.tmps[85]?.getD undef = A85 at *
    generalize A.tmps[86]?.getD undef = A86 at *
    generalize A.tmps[87]?.getD undef = A87 at *
    generalize A.tmps[88]?.getD undef = A88 at *
    generalize A.tmps[89]?.getD undef = A89 at *
    generalize A.tmps[90]?.getD undef = A90 at *
    generalize A.tmps[91]?.getD undef = A91 at *
    generalize A.tmps[92]?.getD undef = A92 at *
    generalize A.tmps[93]?.getD undef = A93 at *
    generalize A.tmps[94]?.getD undef = A94 at *
    generalize A.tmps[95]?.getD undef = A95 at *
    generalize A.tmps[96]?.getD undef = A96 at *
    generalize A.tmps[97]?.getD undef = A97 at *
    generalize A.tmps[98]?.getD undef = A98 at *
    generalize A.tmps[99]?.getD undef = A99 at *
    generalize A.tmps[100]?.getD undef = A100 at *
    generalize A.tmps[101]?.getD undef = A101 at *
    generalize A.tmps[102]?.getD undef = A102 at *
    generalize A.tmps[103]?.getD undef = A103 at *
    generalize A.tmps[104]?.getD undef = A104 at *
    generalize A.tmps[105]?.getD undef = A105 at *
    generalize A.tmps[106]?.getD undef = A106 at *
    generalize A.tmps[107]?.getD undef = A107 at *
    generalize A.tmps[108]?.getD undef = A108 at *
    generalize A.tmps[109]?.getD undef = A109 at *
    generalize A.tmps[110]?.getD undef = A110 at *
    generalize A.tmps[111]?.getD undef = A111 at *
    generalize A.tmps[112]?.getD undef = A112 at *
    generalize A.tmps[113]?.getD undef = A113 at *
    generalize A.tmps[114]?.getD undef = A114 at *
    generalize A.tmps[115]?.getD undef = A115 at *
    generalize A.tmps[116]?.getD undef = A116 at *
    generalize A.tmps[117]?.getD undef = A117 at *
    generalize A.tmps[118]?.getD undef = A118 at *
    generalize A.tmps[119]?.getD undef = A119 at *
    generalize A.tmps[120]?.getD undef = A120 at *
    generalize A.tmps[121]?.getD undef = A121 at *
    generalize A.tmps[122]?.getD undef = A122 at *
    generalize A.tmps[123]?.getD undef = A123 at *
    generalize A.tmps[124]?.getD undef = A124 at *
    generalize A.tmps[125]?.getD undef = A125 at *
    generalize A.tmps[126]?.getD undef = A126 at *
    generalize A.tmps[127]?.getD undef = A127 at *
    generalize A.tmps[128]?.getD undef = A128 at *
    generalize A.tmps[129]?.getD undef = A129 at *
    generalize A.tmps[130]?.getD undef = A130 at *
    generalize A.tmps[131]?.getD undef = A131 at *
    generalize A.tmps[132]?.getD undef = A132 at *
    generalize A.tmps[133]?.getD undef = A133 at *
    generalize A.tmps[134]?.getD undef = A134 at *
    generalize A.tmps[135]?.getD undef = A135 at *
    generalize A.tmps[136]?.getD undef = A136 at *
    generalize A.tmps[137]?.getD undef = A137 at *
    generalize A.tmps[138]?.getD undef = A138 at *
    generalize A.tmps[139]?.getD undef = A139 at *
    generalize A.tmps[140]?.getD undef = A140 at *
    generalize A.tmps[141]?.getD undef = A141 at *
    generalize A.tmps[142]?.getD undef = A142 at *
    generalize A.tmps[143]?.getD undef = A143 at *
    generalize A.tmps[144]?.getD undef = A144 at *
    generalize A.tmps[145]?.getD undef = A145 at *
    generalize A.tmps[146]?.getD undef = A146 at *
    generalize A.tmps[147]?.getD undef = A147 at *
    go_wp2_with (first
      | (go_at_call 26; refine (bin_any _ _ x y _ _ _ (RXX.out _ (Later.ext _)) (RYY.out _ (Later.ext _)) (Nat.le_refl _)).mono ?_; rintro _ wz ⟨g, rfl, hq, xq⟩; obtain ⟨e, rfl⟩ := Later.mk_ex ((Later.ext _).trans xq); have HQ := hide hq; clear hq xq)
      | (go_at_call 30; with_reducible refine (lnot_any _ x _ _ (RXX.out _ (Later.ext _)) (Nat.le_refl _)).mono ?_; rintro _ wz ⟨g, rfl, hq, xq⟩; obtain ⟨e, rfl⟩ := Later.mk_ex ((Later.ext _).trans xq); have HQ := hide hq; clear hq xq)
      | (go_at_call 30; refine (lnot_any _ _ _ [_, _, _, _, _, _] HQ.out (Nat.le_refl _)).mono ?_; clear HQ; rintro _ wz ⟨g, rfl, hq, xq⟩; obtain ⟨e, rfl⟩ := Later.mk_ex ((Later.ext _).trans xq); have HQ := hide hq; clear hq xq)
      | (go_at_call 14; refine (E3.out [_, _, _, _, _, _] _ (Later.ext _) HQ.out).mono ?_; clear HQ; rintro _ wz ⟨rfl, xq⟩; obtain ⟨e, rfl⟩ := Later.mk_ex ((Later.ext _).trans xq); clear xq))
    go_at_call 14; refine (E4.out [_, _, _, _, _, _] _ (Later.ext _) HQ.out).mono ?_; clear HQ; rintro _ wz ⟨rfl, xq⟩; obtain ⟨e, rfl⟩ := Later.mk_ex ((Later.ext _).trans xq); clear xq
    by_cases ha : a = 0
    · by_cases hb : b = 0
      · have ga : (a == 0) = true := by simpa using ha
        have ga1 : (a != 0) = false := by simpa using ha
        have gb : (b == 0) = true := by simpa using hb
        have gb1 : (b != 0) = false := by simpa using hb
        obtain rfl : p = 1 := by rw [HP.out, ga1, gb1]; rfl
        obtain rfl : q = 1 := by rw [HQ'.out, ga, gb]; rfl
        obtain rfl : r = 1 := by rw [HR.out, ga1, gb1]; rfl
        obtain rfl : s = 0 := by rw [HS'.out, ga]; rfl
        clear ha hb HP HQ' HR HS' E1 E2 E3 E4
        go_wp2_with (first | (go_at_call 28; with_reducible refine (LB0.out _).mono ?_; rintro _ wz ⟨rfl, rfl⟩) | (go_at_call 28; with_reducible refine (LB1.out _).mono ?_; rintro _ wz ⟨rfl, rfl⟩))
        go_ret
        exact ⟨rfl, Q02.out.trans (Later.ext _)⟩
      · have ga : (a == 0) = true := by simpa using ha
        have ga1 : (a != 0) = false := by simpa using ha
        have gb : (b == 0) = false := by simpa using hb
        have gb1 : (b != 0) = true := by simpa using hb
        obtain rfl : p = 1 := by rw [HP.out, ga1, gb1]; rfl
        obtain rfl : q = 1 := by rw [HQ'.out, ga, gb]; rfl
        obtain rfl : r = 0 := by rw [HR.out, ga1, gb1]; rfl
        obtain rfl : s = 0 := by rw [HS'.out, ga]; rfl
        clear ha hb HP HQ' HR HS' E1 E2 E3 E4
        go_wp2_with (first | (go_at_call 28; with_reducible refine (LB0.out _).mono ?_; rintro _ wz ⟨rfl, rfl⟩) | (go_at_call 28; with_reducible refine (LB1.out _).mono ?_; rintro _ wz ⟨rfl, rfl⟩))
        go_ret
        exact ⟨rfl, Q02.out.trans (Later.ext _)⟩
    · by_cases hb : b = 0
      · have ga : (a == 0) = false := by simpa using ha
        have ga1 : (a != 0) = true := by simpa using ha
        have gb : (b == 0) = true := by simpa using hb
        have gb1 : (b != 0) = false := by simpa using hb
        obtain rfl : p = 1 := by rw [HP.out, ga1, gb1]; rfl
        obtain rfl : q = 1 := by rw [HQ'.out, ga, gb]; rfl
        obtain rfl : r = 0 := by rw [HR.out, ga1, gb1]; rfl
        obtain rfl : s = 1 := by rw [HS'.out, ga]; rfl
        clear ha hb HP HQ' HR HS' E1 E2 E3 E4
        go_wp2_with (first | (go_at_call 28; with_reducible refine (LB0.out _).mono ?_; rintro _ wz ⟨rfl, rfl⟩) | (go_at_call 28; with_reducible refine (LB1.out _).mono ?_; rintro _ wz ⟨rfl, rfl⟩))
        go_ret
        exact ⟨rfl, Q02.out.trans (Later.ext _)⟩
      · have ga : (a == 0) = false := by simpa using ha
        have ga1 : (a != 0) = true := by simpa using ha
        have gb : (b == 0) = false := by simpa using hb
        have gb1 : (b != 0) = true := by simpa using hb
        obtain rfl : p = 0 := by rw [HP.out, ga1, gb1]; rfl
        obtain rfl : q = 0 := by rw [HQ'.out, ga, gb]; rfl
        obtain rfl : r = 0 := by rw [HR.out, ga1, gb1]; rfl
        obtain rfl : s = 1 := by rw [HS'.out, ga]; rfl
        clear ha hb HP HQ' HR HS' E1 E2 E3 E4
        go_wp2_with (first | (go_at_call 28; with_reducible refine (LB0.out _).mono ?_; rintro _ wz ⟨rfl, rfl⟩) | (go_at_call 28; with_reducible refine (LB1.out _).mono ?_; rintro _ wz ⟨rfl, rfl⟩))
        go_ret
        exact ⟨rfl, Q02.out.trans (Later.ext _)⟩

end Go.Proofs.YtonbgnaopkopoaaDoor
