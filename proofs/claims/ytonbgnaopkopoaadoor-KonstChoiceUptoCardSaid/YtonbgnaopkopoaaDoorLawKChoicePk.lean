/-
  THE LAW KonstChoice: WHAT IT COMPUTES.
-/
import Derived.Test.YtonbgnaopkopoaaDoorKlivePk
namespace Go.Proofs.YtonbgnaopkopoaaDoor
open Go Go.RowKit
set_option linter.all false
set_option linter.unusedVariables false
set_option linter.unusedSimpArgs false
set_option linter.unusedVariables false
set_option linter.unusedSimpArgs false
attribute [local go_sem] run_store_one

theorem Sl.three {α : Type} {R : α → List Value → Prop} {w : World} {B sz g : Nat} {x y z : α} {cs ds es : List Value} (hb : g < B) (hl : cs.length = sz) (hl2 : ds.length = sz) (hl3 : es.length = sz) (hc : Cells w g 0 (cs ++ (ds ++ es))) (ho : ∀ v, v ∈ cs ++ (ds ++ es) → v.oneCell' = true) (hr : R x cs) (hr2 : R y ds) (hr3 : R z es) :
    Sl R w B sz [x, y, z] (.slice (some ⟨g, 0, none⟩) 3 3) := by
  refine ⟨_, 3, rfl, Nat.le_refl _, fun k hk => ?_⟩
  match k, hk with
  | 0, _ => exact ⟨g, 0, cs, rfl, hb, hl, fun j v hj => by
      have := hc j v (by rw [List.getElem?_append_left (List.getElem?_eq_some_iff.1 hj).1]; exact hj)
      simpa using this, fun v hv => ho v (List.mem_append_left _ hv), hr⟩
  | 1, _ => exact ⟨g, 0, ds, rfl, hb, hl2, fun j v hj => by
      have := hc (cs.length + j) v (by rw [List.getElem?_append_right (by omega), Nat.add_sub_cancel_left, List.getElem?_append_left (List.getElem?_eq_some_iff.1 hj).1]; exact hj)
      rw [hl] at this
      simpa using this, fun v hv => ho v (List.mem_append_right _ (List.mem_append_left _ hv)), hr2⟩
  | 2, _ => exact ⟨g, 0, es, rfl, hb, hl3, fun j v hj => by
      have := hc (cs.length + (ds.length + j)) v (by rw [List.getElem?_append_right (by omega), Nat.add_sub_cancel_left, List.getElem?_append_right (by omega), Nat.add_sub_cancel_left]; exact hj)
      rw [hl, hl2] at this
      rw [show 0 + 2 * sz + j = 0 + (sz + (sz + j)) by omega]
      exact this, fun v hv => ho v (List.mem_append_right _ (List.mem_append_right _ hv)), hr3⟩
/-- A choice of three. -/
def xCond (c x y : X) : X := .mk 7 tE 0 0 0 [c, x, y]
theorem cond_eval {env : List (ByteArray × Int)} {c x y : X} (h : checkX (xCond c x y) = 0) :
    evalW env (xCond c x y) = if (evalW env c).2 ≠ 0 then (0, (evalW env c).2) else if (evalW env c).1 = 0 then evalW env y else evalW env x := by
  have hc := part_checkX h c (by simp [xCond, X.l])
  have hx := part_checkX h x (by simp [xCond, X.l])
  have hy := part_checkX h y (by simp [xCond, X.l])
  unfold evalW
  rw [if_pos h, if_pos hc, if_pos hx, if_pos hy, evalX_eq]
  have h1 : (xCond c x y).op = 7 := rfl
  have hl : (xCond c x y).l = [c, x, y] := rfl
  unfold combK
  rw [h1, hl, if_neg (by omega), if_neg (by omega), if_pos (.inr (.inr rfl)), if_neg (show ¬ (7 : Int) = 5 by omega), if_pos rfl]
  by_cases hz : (evalX (lookE env) c).1 = 0
  · simp [hz]
  · simp [hz]
theorem size_cond (c x y : X) : sizeX (xCond c x y) = 1 + (sizeX c + (sizeX x + sizeX y)) := by rw [sizeX_eq]; simp [xCond, X.l, msize]
theorem vx_cond {c x y : X} (hc : VX c) (hx : VX x) (hy : VX y) : VX (xCond c x y) := .mk _ (show (0 : Int) ≤ 0 by decide) (show (0 : Int) < 18446744073709551616 by decide) (show (0 : Nat) < 4294967281 by decide) (fun z hz => by
  simp only [xCond, X.l, List.mem_cons, List.not_mem_nil, or_false] at hz
  rcases hz with rfl | rfl | rfl
  · exact hc
  · exact hx
  · exact hy)

set_option maxRecDepth 20000 in
set_option maxHeartbeats 8000000 in
theorem lawKChoice_any (B : Nat) (env : List (ByteArray × Int)) (c x y : X) (w : World) (ve : Value) (cc cx cy : List Value) (hT : Tabs w) (hC : RX w B c cc) (hX : RX w B x cx) (hY : RX w B y cy) (hS : Sl RNm w B 2 env ve) (hB : B ≤ w.heap.size) (hsc : sizeX c ≤ 100000000) (hsx : sizeX x ≤ 100000000) (hsy : sizeX y ≤ 100000000) (hvc : VX c) (hvx : VX x) (hvy : VX y) (hln : env.length ≤ 1000000000) :
    Calls Tryd.prog 8 #[.agg cc.toArray, .agg cx.toArray, .agg cy.toArray, ve] w fun e w' => e = .returned (.bool true) ∧ Ext w w' := by
  have HC := hide hC
  have HX := hide hX
  have HY := hide hY
  have HT := hide hT
  have HS := hide hS
  obtain ⟨c5, rfl, hR5⟩ := RX_iff.1 hC
  obtain ⟨x5, rfl, hS5⟩ := RX_iff.1 hX
  obtain ⟨y5, rfl, hT5⟩ := RX_iff.1 hY
  have oc := hR5.oneCell
  have ox := hS5.oneCell
  have oy := hT5.oneCell
  have oe := hS.oneCell
  have zc : sizeX c ≤ 1000000000 := by omega
  have zx : sizeX x ≤ 1000000000 := by omega
  have zy : sizeX y ≤ 1000000000 := by omega
  have za : sizeX (xCond c x y) ≤ 1000000000 := by rw [size_cond]; omega
  obtain ⟨W1, e1, hV1, hx1, -, a0, a1, a2, a3, a4, a5⟩ := boxL6 w (.int .i64 c.op) (.string c.name) (.int .i64 c.n) (.int .i64 c.w) (.int .u64 c.v) c5 25
  obtain ⟨W2, e2, hV2, hx2, -, b0, b1, b2, b3, b4, b5⟩ := boxL6 e1.w (.int .i64 x.op) (.string x.name) (.int .i64 x.n) (.int .i64 x.w) (.int .u64 x.v) x5 25
  obtain ⟨W3, e3, hV3, hx3, -, d0, d1, d2, d3, d4, d5⟩ := boxL6 e2.w (.int .i64 y.op) (.string y.name) (.int .i64 y.n) (.int .i64 y.w) (.int .u64 y.v) y5 25
  have q23 := e2.ext.trans hx3
  have q13 := (e1.ext.trans hx2).trans q23
  have q03 := hx1.trans q13
  have a0 := cellL a0 q13
  have b0 := cellL b0 q23
  have a1 := cellL a1 q13
  have b1 := cellL b1 q23
  have a2 := cellL a2 q13
  have b2 := cellL b2 q23
  have a3 := cellL a3 q13
  have b3 := cellL b3 q23
  have a4 := cellL a4 q13
  have b4 := cellL b4 q23
  have a5 := cellL a5 q13
  have b5 := cellL b5 q23
  have hB3 : B ≤ W3.heap.size := Nat.le_trans hB q03.size
  have GL := hide (show ECalls Tryd.prog 12 #[] W3 (.bool true) from fun w' hw => live6_any w' (HT.out.ext (q03.trans hw)))
  have GFC := hide (show ECalls Tryd.prog 13 #[.agg #[.int .i64 c.op, .string c.name, .int .i64 c.n, .int .i64 c.w, .int .u64 c.v, c5], ve] W3 (.bool (yes (fewE c env.length))) from fun w' hw => fewE_any B env c w' ve _ (HC.out.ext (q03.trans hw) hB) (HS.out.extN (q03.trans hw) hB) (Nat.le_trans hB3 hw.size) zc hln)
  have KEC := hide (show ECalls Tryd.prog 14 #[.agg #[.int .i64 c.op, .string c.name, .int .i64 c.n, .int .i64 c.w, .int .u64 c.v, c5], ve] W3 (pairV (evalW env c)) from fun w' hw => kEval_any B env c w' ve _ (HT.out.ext (q03.trans hw)) (HC.out.ext (q03.trans hw) hB) (HS.out.extN (q03.trans hw) hB) (Nat.le_trans hB3 hw.size) zc hvc hln)
  have RCC := hide (show ∀ w', Ext W3 w' → RX w' w'.heap.size c [.int .i64 c.op, .string c.name, .int .i64 c.n, .int .i64 c.w, .int .u64 c.v, c5] from fun w' hw => (HC.out.ext (q03.trans hw) hB).more (Nat.le_trans hB3 hw.size))
  have GFX := hide (show ECalls Tryd.prog 13 #[.agg #[.int .i64 x.op, .string x.name, .int .i64 x.n, .int .i64 x.w, .int .u64 x.v, x5], ve] W3 (.bool (yes (fewE x env.length))) from fun w' hw => fewE_any B env x w' ve _ (HX.out.ext (q03.trans hw) hB) (HS.out.extN (q03.trans hw) hB) (Nat.le_trans hB3 hw.size) zx hln)
  have KEX := hide (show ECalls Tryd.prog 14 #[.agg #[.int .i64 x.op, .string x.name, .int .i64 x.n, .int .i64 x.w, .int .u64 x.v, x5], ve] W3 (pairV (evalW env x)) from fun w' hw => kEval_any B env x w' ve _ (HT.out.ext (q03.trans hw)) (HX.out.ext (q03.trans hw) hB) (HS.out.extN (q03.trans hw) hB) (Nat.le_trans hB3 hw.size) zx hvx hln)
  have RXX := hide (show ∀ w', Ext W3 w' → RX w' w'.heap.size x [.int .i64 x.op, .string x.name, .int .i64 x.n, .int .i64 x.w, .int .u64 x.v, x5] from fun w' hw => (HX.out.ext (q03.trans hw) hB).more (Nat.le_trans hB3 hw.size))
  have GFY := hide (show ECalls Tryd.prog 13 #[.agg #[.int .i64 y.op, .string y.name, .int .i64 y.n, .int .i64 y.w, .int .u64 y.v, y5], ve] W3 (.bool (yes (fewE y env.length))) from fun w' hw => fewE_any B env y w' ve _ (HY.out.ext (q03.trans hw) hB) (HS.out.extN (q03.trans hw) hB) (Nat.le_trans hB3 hw.size) zy hln)
  have KEY := hide (show ECalls Tryd.prog 14 #[.agg #[.int .i64 y.op, .string y.name, .int .i64 y.n, .int .i64 y.w, .int .u64 y.v, y5], ve] W3 (pairV (evalW env y)) from fun w' hw => kEval_any B env y w' ve _ (HT.out.ext (q03.trans hw)) (HY.out.ext (q03.trans hw) hB) (HS.out.extN (q03.trans hw) hB) (Nat.le_trans hB3 hw.size) zy hvy hln)
  have RYY := hide (show ∀ w', Ext W3 w' → RX w' w'.heap.size y [.int .i64 y.op, .string y.name, .int .i64 y.n, .int .i64 y.w, .int .u64 y.v, y5] from fun w' hw => (HY.out.ext (q03.trans hw) hB).more (Nat.le_trans hB3 hw.size))
  have HTT := hide (show ∀ w', Ext W3 w' → Tabs w' from fun w' hw => HT.out.ext (q03.trans hw))
  have HSS := hide (show ∀ w', Ext W3 w' → Sl RNm w' w'.heap.size 2 env ve from fun w' hw => (HS.out.extN (q03.trans hw) hB).keep (fun p hp => rfl) (Nat.le_trans hB3 hw.size) (fun _ _ _ h => h))
  have Q03 := hide q03
  have VV := hide (vx_cond hvc hvx hvy)
  have EV := fun h => cond_eval (env := env) (c := c) (x := x) (y := y) h
  clear hT hC hX hY hS hR5 hS5 hT5 hx1 hx2 hx3 q23 q13 q03 HC HX HY HT HS hB3 hvc hvx hvy zc zx zy hsc hsx hsy
  cases bc : yes (fewE c env.length) with
  | false =>
    rw [bc] at GFC
    clear EV VV RCC RXX RYY HTT HSS
    go_enter Tryd.func8, Tryd.ntmps8
    go_wp2_with (first
      | (go_at_call 12; with_reducible refine (GL.out.at_ _).mono ?_; rintro _ _ ⟨rfl, e, rfl⟩)
      | (go_at_call 13; with_reducible refine (GFC.out.at_ _).mono ?_; rintro _ _ ⟨rfl, e, rfl⟩)
      | (go_at_call 13; with_reducible refine (GFX.out.at_ _).mono ?_; rintro _ _ ⟨rfl, e, rfl⟩)
      | (go_at_call 13; with_reducible refine (GFY.out.at_ _).mono ?_; rintro _ _ ⟨rfl, e, rfl⟩))
    go_ret
    exact ⟨rfl, Q03.out.trans (Later.ext _)⟩
  | true =>
  rw [bc] at GFC
  clear bc
  cases bx : yes (fewE x env.length) with
  | false =>
    rw [bx] at GFX
    clear EV VV RCC RXX RYY HTT HSS
    go_enter Tryd.func8, Tryd.ntmps8
    go_wp2_with (first
      | (go_at_call 12; with_reducible refine (GL.out.at_ _).mono ?_; rintro _ _ ⟨rfl, e, rfl⟩)
      | (go_at_call 13; with_reducible refine (GFC.out.at_ _).mono ?_; rintro _ _ ⟨rfl, e, rfl⟩)
      | (go_at_call 13; with_reducible refine (GFX.out.at_ _).mono ?_; rintro _ _ ⟨rfl, e, rfl⟩)
      | (go_at_call 13; with_reducible refine (GFY.out.at_ _).mono ?_; rintro _ _ ⟨rfl, e, rfl⟩))
    go_ret
    exact ⟨rfl, Q03.out.trans (Later.ext _)⟩
  | true =>
  rw [bx] at GFX
  clear bx
  cases by_ : yes (fewE y env.length) with
  | false =>
    rw [by_] at GFY
    clear EV VV RCC RXX RYY HTT HSS
    go_enter Tryd.func8, Tryd.ntmps8
    go_wp2_with (first
      | (go_at_call 12; with_reducible refine (GL.out.at_ _).mono ?_; rintro _ _ ⟨rfl, e, rfl⟩)
      | (go_at_call 13; with_reducible refine (GFC.out.at_ _).mono ?_; rintro _ _ ⟨rfl, e, rfl⟩)
      | (go_at_call 13; with_reducible refine (GFX.out.at_ _).mono ?_; rintro _ _ ⟨rfl, e, rfl⟩)
      | (go_at_call 13; with_reducible refine (GFY.out.at_ _).mono ?_; rintro _ _ ⟨rfl, e, rfl⟩))
    go_ret
    exact ⟨rfl, Q03.out.trans (Later.ext _)⟩
  | true =>
  rw [by_] at GFY
  clear by_
  go_enter Tryd.func8, Tryd.ntmps8
  go_wp2_with (first
    | (go_at_call 12; with_reducible refine (GL.out.at_ _).mono ?_; rintro _ _ ⟨rfl, e, rfl⟩)
    | (go_at_call 13; with_reducible refine (GFC.out.at_ _).mono ?_; rintro _ _ ⟨rfl, e, rfl⟩)
    | (go_at_call 13; with_reducible refine (GFX.out.at_ _).mono ?_; rintro _ _ ⟨rfl, e, rfl⟩))
  go_at_call 13
  refine (GFY.out.at_ _).mono ?_
  rintro _ _ ⟨rfl, e, rfl⟩
  obtain ⟨Wa, hWa⟩ : ∃ Wa, Wa = e.w.alloc (.cells #[.int .i64 c.op, .string c.name, .int .i64 c.n, .int .i64 c.w, .int .u64 c.v, c5, .int .i64 x.op, .string x.name, .int .i64 x.n, .int .i64 x.w, .int .u64 x.v, x5, .int .i64 y.op, .string y.name, .int .i64 y.n, .int .i64 y.w, .int .u64 y.v, y5] 25) := ⟨_, rfl⟩
  have hba : Blk Wa e.w.heap.size 25 ([.int .i64 c.op, .string c.name, .int .i64 c.n, .int .i64 c.w, .int .u64 c.v, c5] ++ ([.int .i64 x.op, .string x.name, .int .i64 x.n, .int .i64 x.w, .int .u64 x.v, x5] ++ [.int .i64 y.op, .string y.name, .int .i64 y.n, .int .i64 y.w, .int .u64 y.v, y5])) := by rw [hWa]; exact Blk.new _ _ ([_, _, _, _, _, _] ++ ([_, _, _, _, _, _] ++ [_, _, _, _, _, _]))
  have hxa : Ext e.w Wa := by rw [hWa]; exact Ext.new _ _
  have za' : Wa.heap.size = e.w.heap.size + 1 := by rw [hWa]; simp
  obtain ⟨Wb, hWb, hxb, hbb⟩ := box6 Wa (.int .i64 0) (.string ⟨#[]⟩) (.int .i64 0) (.int .i64 0) (.int .u64 0) (.slice none 0 0) 25
  obtain ⟨m0, m1, m2, m3, m4, m5⟩ := hbb.get6
  obtain ⟨n0, n1, n2, n3, n4, n5⟩ := hbb.free6
  obtain ⟨Wc, hWc⟩ : ∃ Wc, Wc = ((((((Wb.setCell ⟨Wa.heap.size, 0, none⟩ (.int .i64 7)).setCell ⟨Wa.heap.size, 1, none⟩ (.string ⟨#[]⟩)).setCell ⟨Wa.heap.size, 2, none⟩ (.int .i64 0)).setCell ⟨Wa.heap.size, 3, none⟩ (.int .i64 0)).setCell ⟨Wa.heap.size, 4, none⟩ (.int .u64 0)).setCell ⟨Wa.heap.size, 5, none⟩ (.slice (some ⟨e.w.heap.size, 0, none⟩) 3 3)) := ⟨_, rfl⟩
  have hbc := hbb.store6 (.int .i64 7) (.string ⟨#[]⟩) (.int .i64 0) (.int .i64 0) (.int .u64 0) (.slice (some ⟨e.w.heap.size, 0, none⟩) 3 3)
  rw [← hWc] at hbc
  have hge : e.w.heap.size ≤ Wa.heap.size := by omega
  have hbx : Ext e.w Wc := by rw [hWc]; exact ((((((hxa.trans hxb).setCell hge _).setCell hge _).setCell hge _).setCell hge _).setCell hge _).setCell hge _
  have hne : e.w.heap.size ≠ Wa.heap.size := by omega
  have hba' := ((((((hba.ext hxb).far (p := ⟨Wa.heap.size, 0, none⟩) hne (.int .i64 7)).far (p := ⟨Wa.heap.size, 1, none⟩) hne (.string ⟨#[]⟩)).far (p := ⟨Wa.heap.size, 2, none⟩) hne (.int .i64 0)).far (p := ⟨Wa.heap.size, 3, none⟩) hne (.int .i64 0)).far (p := ⟨Wa.heap.size, 4, none⟩) hne (.int .u64 0)).far (p := ⟨Wa.heap.size, 5, none⟩) hne (.slice (some ⟨e.w.heap.size, 0, none⟩) 3 3)
  rw [← hWc] at hba'
  obtain ⟨ec, hec⟩ := Later.mk_ex (Ext.refl Wc)
  have hVa := hWa.symm
  have hVb := hWb.symm
  have hVc := hWc.symm.trans hec
  have q3c := (Later.ext e).trans hbx
  have Q0c := hide (Q03.out.trans q3c)
  obtain ⟨u0, u1, u2, u3, u4, u5⟩ := hbc.later6
  have HH := hide (show ∀ w', Ext Wc w' → RX w' w'.heap.size (xCond c x y) [.int .i64 7, .string ⟨#[]⟩, .int .i64 0, .int .i64 0, .int .u64 0, .slice (some ⟨e.w.heap.size, 0, none⟩) 3 3] from fun w' hw => (RX.ext (B := Wc.heap.size) (RX_iff.2 ⟨_, rfl, Sl.three (cs := [.int .i64 c.op, .string c.name, .int .i64 c.n, .int .i64 c.w, .int .u64 c.v, c5]) (ds := [.int .i64 x.op, .string x.name, .int .i64 x.n, .int .i64 x.w, .int .u64 x.v, x5]) (es := [.int .i64 y.op, .string y.name, .int .i64 y.n, .int .i64 y.w, .int .u64 y.v, y5]) hba'.lt rfl rfl rfl hba'.cells (by intro v hv; simp only [List.cons_append, List.nil_append, List.mem_cons, List.not_mem_nil, or_false] at hv; rcases hv with rfl | rfl | rfl | rfl | rfl | rfl | rfl | rfl | rfl | rfl | rfl | rfl | rfl | rfl | rfl | rfl | rfl | rfl <;> first | exact oc | exact ox | exact oy | rfl) (RCC.out Wc q3c) (RXX.out Wc q3c) (RYY.out Wc q3c)⟩) hw (Nat.le_refl _)).more hw.size)
  have A0 := cellL a0 q3c
  have B0 := cellL b0 q3c
  have D0 := cellL d0 q3c
  have A1 := cellL a1 q3c
  have B1 := cellL b1 q3c
  have D1 := cellL d1 q3c
  have A2 := cellL a2 q3c
  have B2 := cellL b2 q3c
  have D2 := cellL d2 q3c
  have A3 := cellL a3 q3c
  have B3 := cellL b3 q3c
  have D3 := cellL d3 q3c
  have A4 := cellL a4 q3c
  have B4 := cellL b4 q3c
  have D4 := cellL d4 q3c
  have A5 := cellL a5 q3c
  have B5 := cellL b5 q3c
  have D5 := cellL d5 q3c
  have C2 := hide (show ECalls Tryd.prog 31 #[.agg #[.int .i64 7, .string ⟨#[]⟩, .int .i64 0, .int .i64 0, .int .u64 0, .slice (some ⟨e.w.heap.size, 0, none⟩) 3 3]] Wc (.int .i64 (checkX (xCond c x y))) from fun w' hw => CheckX_any w'.heap.size _ w' [.int .i64 7, .string ⟨#[]⟩, .int .i64 0, .int .i64 0, .int .u64 0, .slice (some ⟨e.w.heap.size, 0, none⟩) 3 3] (HTT.out w' (q3c.trans hw)) (HH.out w' hw) (Nat.le_refl _) za VV.out)
  have KA := hide (show ECalls Tryd.prog 14 #[.agg #[.int .i64 7, .string ⟨#[]⟩, .int .i64 0, .int .i64 0, .int .u64 0, .slice (some ⟨e.w.heap.size, 0, none⟩) 3 3], ve] Wc (pairV (evalW env (xCond c x y))) from fun w' hw => kEval_any w'.heap.size env _ w' ve [.int .i64 7, .string ⟨#[]⟩, .int .i64 0, .int .i64 0, .int .u64 0, .slice (some ⟨e.w.heap.size, 0, none⟩) 3 3] (HTT.out w' (q3c.trans hw)) (HH.out w' hw) (HSS.out w' (q3c.trans hw)) (Nat.le_refl _) za VV.out hln)
  replace KEC := hide (KEC.out.later q3c)
  replace KEX := hide (KEX.out.later q3c)
  replace KEY := hide (KEY.out.later q3c)
  clear hWa hWb hWc hba hba' hxa hxb hbb hbc hbx hec q3c hge hne za' GL GFC GFX GFY HH HTT HSS RCC RXX RYY VV za hln Q03 hV1 hV2 hV3
  by_cases hk : checkX (xCond c x y) = 0
  rotate_left
  · have g0 : ((checkX (xCond c x y) : Int) == 0) = false := by simpa using hk
    have g1 : ((checkX (xCond c x y) : Int) != 0) = true := by simpa using hk
    clear EV hk KA KEC KEX KEY
    generalize checkX (xCond c x y) = tx at *
    go_wp2_with (go_at_call 31; refine (C2.out.at_ _).mono ?_; rintro _ _ ⟨rfl, e', rfl⟩)
    go_ret
    exact ⟨rfl, Q0c.out.trans (Later.ext _)⟩
  have ev := EV hk
  rw [hk] at C2
  generalize evalW env c = r at *
  generalize evalW env x = s at *
  generalize evalW env y = t at *
  generalize evalW env (xCond c x y) = u at *
  obtain ⟨r1, r2⟩ := r
  obtain ⟨s1, s2⟩ := s
  obtain ⟨t1, t2⟩ := t
  simp only at ev
  unfold pairV at *
  clear EV hk
  by_cases hr2 : r2 = 0
  rotate_left
  · rw [if_pos hr2] at ev
    subst ev
    have g0 : (r2 == 0) = false := by simpa using hr2
    have g1 : (r2 != 0) = true := by simpa using hr2
    simp only at KA KEC
    clear hr2
    go_wp2_with (first | (go_at_call 31; refine (C2.out.at_ _).mono ?_; rintro _ _ ⟨rfl, e', rfl⟩) | (go_at_call 14; with_reducible refine (KEC.out.at_ _).mono ?_; rintro _ _ ⟨rfl, e', rfl⟩) | (go_at_call 14; with_reducible refine (KA.out.at_ _).mono ?_; rintro _ _ ⟨rfl, e', rfl⟩))
    go_ret
    exact ⟨rfl, Q0c.out.trans (Later.ext _)⟩
  subst hr2
  rw [if_neg (by simp)] at ev
  simp only at KEC KEX KEY
  by_cases hr1 : r1 = 0
  · subst hr1
    rw [if_pos rfl] at ev
    subst ev
    simp only at KA
    go_wp2_with (first | (go_at_call 31; refine (C2.out.at_ _).mono ?_; rintro _ _ ⟨rfl, e', rfl⟩) | (go_at_call 14; with_reducible refine (KEC.out.at_ _).mono ?_; rintro _ _ ⟨rfl, e', rfl⟩))
    go_at_call 14
    refine (KA.out.at_ _).mono ?_
    rintro _ _ ⟨rfl, f, rfl⟩
    obtain ⟨Wd, hWd, hxd, hbd⟩ := box6 f.w (.int .i64 0) (.string ⟨#[]⟩) (.int .i64 0) (.int .i64 0) (.int .u64 0) (.slice none 0 0) 25
    obtain ⟨o0, o1, o2, o3, o4, o5⟩ := hbd.get6
    obtain ⟨p0, p1, p2, p3, p4, p5⟩ := hbd.free6
    obtain ⟨We, hWe⟩ : ∃ We, We = ((((((Wd.setCell ⟨f.w.heap.size, 0, none⟩ (.int .i64 y.op)).setCell ⟨f.w.heap.size, 1, none⟩ (.string y.name)).setCell ⟨f.w.heap.size, 2, none⟩ (.int .i64 y.n)).setCell ⟨f.w.heap.size, 3, none⟩ (.int .i64 y.w)).setCell ⟨f.w.heap.size, 4, none⟩ (.int .u64 y.v)).setCell ⟨f.w.heap.size, 5, none⟩ y5) := ⟨_, rfl⟩
    have hbe := hbd.store6 (.int .i64 y.op) (.string y.name) (.int .i64 y.n) (.int .i64 y.w) (.int .u64 y.v) y5
    rw [← hWe] at hbe
    have hde : Ext f.w We := by rw [hWe]; exact (((((hxd.setCell (Nat.le_refl _) _).setCell (Nat.le_refl _) _).setCell (Nat.le_refl _) _).setCell (Nat.le_refl _) _).setCell (Nat.le_refl _) _).setCell (Nat.le_refl _) _
    have qce := (Later.ext f).trans hde
    have hVd := hWd.symm
    obtain ⟨ee, hee⟩ := Later.mk_ex (Ext.refl We)
    have hVe := hWe.symm.trans hee
    have Q0e := hide (Q0c.out.trans qce)
    obtain ⟨i0, i1, i2, i3, i4, i5⟩ := hbe.later6
    replace KEY := hide (KEY.out.later qce)
    clear hWd hWe hxd hbd hbe hde hee qce
    go_wp2_with (go_at_call 14; refine (KEY.out.at_ _).mono ?_; rintro _ _ ⟨rfl, e', rfl⟩)
    go_ret
    exact ⟨rfl, Q0e.out.trans (Later.ext _)⟩
  · rw [if_neg hr1] at ev
    subst ev
    simp only at KA
    have g0 : (r1 == 0) = false := by simpa using hr1
    have g1 : (r1 != 0) = true := by simpa using hr1
    clear hr1
    go_wp2_with (first | (go_at_call 31; refine (C2.out.at_ _).mono ?_; rintro _ _ ⟨rfl, e', rfl⟩) | (go_at_call 14; with_reducible refine (KEC.out.at_ _).mono ?_; rintro _ _ ⟨rfl, e', rfl⟩))
    go_at_call 14
    refine (KA.out.at_ _).mono ?_
    rintro _ _ ⟨rfl, f, rfl⟩
    obtain ⟨Wd, hWd, hxd, hbd⟩ := box6 f.w (.int .i64 0) (.string ⟨#[]⟩) (.int .i64 0) (.int .i64 0) (.int .u64 0) (.slice none 0 0) 25
    obtain ⟨o0, o1, o2, o3, o4, o5⟩ := hbd.get6
    obtain ⟨p0, p1, p2, p3, p4, p5⟩ := hbd.free6
    obtain ⟨We, hWe⟩ : ∃ We, We = ((((((Wd.setCell ⟨f.w.heap.size, 0, none⟩ (.int .i64 y.op)).setCell ⟨f.w.heap.size, 1, none⟩ (.string y.name)).setCell ⟨f.w.heap.size, 2, none⟩ (.int .i64 y.n)).setCell ⟨f.w.heap.size, 3, none⟩ (.int .i64 y.w)).setCell ⟨f.w.heap.size, 4, none⟩ (.int .u64 y.v)).setCell ⟨f.w.heap.size, 5, none⟩ y5) := ⟨_, rfl⟩
    have hbe := hbd.store6 (.int .i64 y.op) (.string y.name) (.int .i64 y.n) (.int .i64 y.w) (.int .u64 y.v) y5
    rw [← hWe] at hbe
    have hde : Ext f.w We := by rw [hWe]; exact (((((hxd.setCell (Nat.le_refl _) _).setCell (Nat.le_refl _) _).setCell (Nat.le_refl _) _).setCell (Nat.le_refl _) _).setCell (Nat.le_refl _) _).setCell (Nat.le_refl _) _
    have qce := (Later.ext f).trans hde
    have hVd := hWd.symm
    obtain ⟨ee, hee⟩ := Later.mk_ex qce
    have hVe := hWe.symm.trans hee
    rw [hee] at hbe
    obtain ⟨i0, i1, i2, i3, i4, i5⟩ := hbe.get6
    obtain ⟨j0, j1, j2, j3, j4, j5⟩ := hbe.free6
    obtain ⟨Wg, hWg⟩ : ∃ Wg, Wg = ((((((ee.w.setCell ⟨f.w.heap.size, 0, none⟩ (.int .i64 x.op)).setCell ⟨f.w.heap.size, 1, none⟩ (.string x.name)).setCell ⟨f.w.heap.size, 2, none⟩ (.int .i64 x.n)).setCell ⟨f.w.heap.size, 3, none⟩ (.int .i64 x.w)).setCell ⟨f.w.heap.size, 4, none⟩ (.int .u64 x.v)).setCell ⟨f.w.heap.size, 5, none⟩ x5) := ⟨_, rfl⟩
    have hbg := hbe.store6 (.int .i64 x.op) (.string x.name) (.int .i64 x.n) (.int .i64 x.w) (.int .u64 x.v) x5
    rw [← hWg] at hbg
    have hgr : Ext f.w ee.w := by rw [← hee]; exact hde
    have hdg : Ext f.w Wg := by rw [hWg]; exact (((((hgr.setCell (Nat.le_refl _) _).setCell (Nat.le_refl _) _).setCell (Nat.le_refl _) _).setCell (Nat.le_refl _) _).setCell (Nat.le_refl _) _).setCell (Nat.le_refl _) _
    have qcg := (Later.ext f).trans hdg
    obtain ⟨eg, heg⟩ := Later.mk_ex (Ext.refl Wg)
    have hVg := hWg.symm.trans heg
    have Q0e := hide (Q0c.out.trans qcg)
    obtain ⟨k0, k1, k2, k3, k4, k5⟩ := hbg.later6
    replace KEX := hide (KEX.out.later qcg)
    clear hWd hWe hxd hbd hbe hde hee qce hWg hbg hgr hdg qcg heg
    go_wp2_with (go_at_call 14; refine (KEX.out.at_ _).mono ?_; rintro _ _ ⟨rfl, e', rfl⟩)
    go_ret
    exact ⟨rfl, Q0e.out.trans (Later.ext _)⟩

end Go.Proofs.YtonbgnaopkopoaaDoor
