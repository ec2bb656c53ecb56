/-
  THE LAW KonstBounds: WHAT IT COMPUTES.
-/
import Derived.Test.YtonbgnaopkopoaaDoorKlivePk
import Derived.Test.YtonbgnaopkopoaaDoorRevPk
namespace Go.Proofs.YtonbgnaopkopoaaDoor
open Go Go.RowKit
set_option linter.all false
set_option linter.unusedVariables false
set_option linter.unusedSimpArgs false
set_option linter.unusedVariables false
set_option linter.unusedSimpArgs false
attribute [local go_sem] run_store_one

/-- What the three tell, together. -/
theorem num_of_ok {env : List (ByteArray × Int)} {x : X} (h : (evalW env x).2 = 0) : numK env x = ((0, (evalW env x).1), 0) := by
  unfold numK
  by_cases hc : x.op = 1 ∧ checkX x = 0
  · rw [if_pos hc]
    unfold evalW at *
    rw [if_pos hc.2] at *
    rw [evalX_eq] at *
    unfold combK at *
    by_cases hw : x.w = 0
    · rw [if_pos ⟨hc.1, hw⟩] at *
      unfold toldK at *
      split at h
      · rename_i hi
        rw [if_pos hi, hw]
      · cases h
    · rw [if_neg (by omega), if_neg (by omega), if_neg (by unfold opK; omega)] at h
      cases h
  · rw [if_neg hc, h]
theorem num_of_err {env : List (ByteArray × Int)} {x : X} (h : (evalW env x).2 ≠ 0) (ho : x.op ≠ 1) : numK env x = ((0, 0), (evalW env x).2) := by
  unfold numK
  rw [if_neg (fun hc => ho hc.1), evalW_err h]
theorem width_of_err {env : List (ByteArray × Int)} {x : X} (h : (evalW env x).2 ≠ 0) : widthK env x = (0, (evalW env x).2) := by
  unfold widthK
  rw [if_neg (fun hc => h hc.1), ← evalW_err h]
theorem width_fits {env : List (ByteArray × Int)} {x : X} (h : (evalW env x).2 = 0) (h1 : 1 ≤ (evalW env x).1 ∧ (evalW env x).1 ≤ 64) : widthK env x = ((evalW env x).1, 0) := by
  unfold widthK
  rw [if_neg (by omega), ← h]
theorem width_not {env : List (ByteArray × Int)} {x : X} (h : (evalW env x).2 = 0) (h1 : (evalW env x).1 < 1 ∨ 64 < (evalW env x).1) : widthK env x = (0, 83) := if_pos ⟨h, h1⟩

set_option maxRecDepth 20000 in
set_option maxHeartbeats 4000000 in
theorem lawKBounds_any (B : Nat) (env : List (ByteArray × Int)) (x : X) (w : World) (ve : Value) (cs : List Value) (hT : Tabs w) (hR : RX w B x cs) (hS : Sl RNm w B 2 env ve) (hB : B ≤ w.heap.size) (hsz : sizeX x ≤ 100000000) (hv : VX x) (hln : env.length ≤ 1000000000) :
    Calls Tryd.prog 9 #[.agg cs.toArray, ve] w fun e w' => e = .returned (.bool true) ∧ Ext w w' := by
  have HR := hide hR
  have HT := hide hT
  have HS := hide hS
  obtain ⟨x5, rfl, hS5⟩ := RX_iff.1 hR
  have o5 := hS5.oneCell
  have oe := hS.oneCell
  have hsz9 : sizeX x ≤ 1000000000 := by omega
  obtain ⟨W1, e1, hV1, hx1, hs1, c0, c1, c2, c3, c4, c5⟩ := boxL6 w (.int .i64 x.op) (.string x.name) (.int .i64 x.n) (.int .i64 x.w) (.int .u64 x.v) x5 25
  have hB1 : B ≤ W1.heap.size := Nat.le_trans hB hx1.size
  have GL := hide (show ECalls Tryd.prog 12 #[] W1 (.bool true) from fun w' hw => live6_any w' (HT.out.ext (hx1.trans hw)))
  have GF := hide (show ECalls Tryd.prog 13 #[.agg #[.int .i64 x.op, .string x.name, .int .i64 x.n, .int .i64 x.w, .int .u64 x.v, x5], ve] W1 (.bool (yes (fewE x env.length))) from fun w' hw => fewE_any B env x w' ve _ (HR.out.ext (hx1.trans hw) hB) (HS.out.extN (hx1.trans hw) hB) (Nat.le_trans hB1 hw.size) hsz9 hln)
  have KE := hide (show ECalls Tryd.prog 14 #[.agg #[.int .i64 x.op, .string x.name, .int .i64 x.n, .int .i64 x.w, .int .u64 x.v, x5], ve] W1 (pairV (evalW env x)) from fun w' hw => kEval_any B env x w' ve _ (HT.out.ext (hx1.trans hw)) (HR.out.ext (hx1.trans hw) hB) (HS.out.extN (hx1.trans hw) hB) (Nat.le_trans hB1 hw.size) hsz9 hv hln)
  have KW := hide (show ECalls Tryd.prog 18 #[.agg #[.int .i64 x.op, .string x.name, .int .i64 x.n, .int .i64 x.w, .int .u64 x.v, x5], ve] W1 (pairV (widthK env x)) from fun w' hw => kWidth_any B env x w' ve _ (HT.out.ext (hx1.trans hw)) (HR.out.ext (hx1.trans hw) hB) (HS.out.extN (hx1.trans hw) hB) (Nat.le_trans hB1 hw.size) hsz9 hv hln)
  have KN := hide (show ECalls Tryd.prog 20 #[.agg #[.int .i64 x.op, .string x.name, .int .i64 x.n, .int .i64 x.w, .int .u64 x.v, x5], ve] W1 (.tuple #[.agg #[.int .i64 (numK env x).1.1, .int .u64 (numK env x).1.2], .int .i64 (numK env x).2]) from fun w' hw => kNumber_any B env x w' ve _ (HT.out.ext (hx1.trans hw)) (HR.out.ext (hx1.trans hw) hB) (HS.out.extN (hx1.trans hw) hB) (Nat.le_trans hB1 hw.size) hsz9 hv hln)
  have Q01 := hide hx1
  have BD := evalW_bd (env := env) (x := x)
  have ER := fun h => evalW_err (env := env) (x := x) h
  have N0 := fun h => num_of_ok (env := env) (x := x) h
  have N1 := fun h h' => num_of_err (env := env) (x := x) h h'
  have W0 := fun h => width_of_err (env := env) (x := x) h
  have W1' := fun h h' => width_fits (env := env) (x := x) h h'
  have W2 := fun h h' => width_not (env := env) (x := x) h h'
  clear hT hR hS hS5 hx1 hsz hsz9 HR HT HS hv hln hB1 hs1
  generalize yes (fewE x env.length) = bf at *
  generalize evalW env x = r at *
  generalize widthK env x = rw at *
  generalize numK env x = rn at *
  obtain ⟨n, e⟩ := r
  unfold pairV at *
  simp only at KE BD ER N0 N1 W0 W1' W2
  obtain ⟨hn0, hn1⟩ := BD
  by_cases he : e = 0
  · subst he
    have hrn := N0 rfl
    subst hrn
    have d0 : decide (n < 0) = false := decide_eq_false (by omega)
    have d1 : decide (2147483647 < n) = false := decide_eq_false (by omega)
    by_cases h1 : 1 ≤ n ∧ n ≤ 64
    · have hrw := W1' rfl h1
      subst hrw
      have d2 : decide (1 ≤ n) = true := decide_eq_true h1.1
      have d3 : decide (n ≤ 64) = true := decide_eq_true h1.2
      clear ER N0 N1 W0 W1' W2
      simp only at KW KN
      go_enter Tryd.func9, Tryd.ntmps9
      go_wp2_with (first
        | (go_at_call 12; refine (GL.out.at_ _).mono ?_; rintro _ _ ⟨rfl, e, rfl⟩)
        | (go_at_call 13; refine (GF.out.at_ _).mono ?_; rintro _ _ ⟨rfl, e, rfl⟩)
        | (go_at_call 14; refine (KE.out.at_ _).mono ?_; rintro _ _ ⟨rfl, e, rfl⟩)
        | (go_at_call 18; refine (KW.out.at_ _).mono ?_; rintro _ _ ⟨rfl, e, rfl⟩)
        | (go_at_call 20; refine (KN.out.at_ _).mono ?_; rintro _ _ ⟨rfl, e, rfl⟩; obtain ⟨Wa, hWa, hxa, hba⟩ := box2 e.w (.int .i64 0) (.int .u64 0) 36; obtain ⟨ga0, ga1⟩ := hba.free2; obtain ⟨gm0, gm1⟩ := hba.get2; have hbb := hba.store2 (.int .i64 0) (.int .u64 n); obtain ⟨Wb, hWb⟩ : ∃ Wb, Wb = (Wa.setCell ⟨e.w.heap.size, 0, none⟩ (.int .i64 0)).setCell ⟨e.w.heap.size, 1, none⟩ (.int .u64 n) := ⟨_, rfl⟩; rw [← hWb] at hbb; have qb : Ext e.w Wb := (by rw [hWb]; exact ((hxa.setCell (Nat.le_refl _) _).setCell (Nat.le_refl _) _)); have qq := e.ext.trans qb; obtain ⟨eb, heb⟩ := Later.mk_ex (Ext.refl Wb); have hVa := hWa.symm; have hVb := hWb.symm.trans heb; obtain ⟨u0, u1⟩ := hbb.later2; replace c0 := cellL c0 qq; replace c1 := cellL c1 qq; replace c2 := cellL c2 qq; replace c3 := cellL c3 qq; replace c4 := cellL c4 qq; replace c5 := cellL c5 qq; replace Q01 := hide (Q01.out.trans qq); clear hWa hxa hba hbb hWb qb heb qq))
      all_goals
        first | (go_ret; exact ⟨rfl, Q01.out.trans (Later.ext _)⟩) | skip
    · have hrw := W2 rfl (by omega)
      subst hrw
      by_cases h2 : 1 ≤ n
      · have d2 : decide (1 ≤ n) = true := decide_eq_true h2
        have d3 : decide (n ≤ 64) = false := decide_eq_false (by omega)
        clear ER N0 N1 W0 W1' W2
        simp only at KW KN
        go_enter Tryd.func9, Tryd.ntmps9
        go_wp2_with (first
          | (go_at_call 12; refine (GL.out.at_ _).mono ?_; rintro _ _ ⟨rfl, e, rfl⟩)
          | (go_at_call 13; refine (GF.out.at_ _).mono ?_; rintro _ _ ⟨rfl, e, rfl⟩)
          | (go_at_call 14; refine (KE.out.at_ _).mono ?_; rintro _ _ ⟨rfl, e, rfl⟩)
          | (go_at_call 18; refine (KW.out.at_ _).mono ?_; rintro _ _ ⟨rfl, e, rfl⟩)
          | (go_at_call 20; refine (KN.out.at_ _).mono ?_; rintro _ _ ⟨rfl, e, rfl⟩; obtain ⟨Wa, hWa, hxa, hba⟩ := box2 e.w (.int .i64 0) (.int .u64 0) 36; obtain ⟨ga0, ga1⟩ := hba.free2; obtain ⟨gm0, gm1⟩ := hba.get2; have hbb := hba.store2 (.int .i64 0) (.int .u64 n); obtain ⟨Wb, hWb⟩ : ∃ Wb, Wb = (Wa.setCell ⟨e.w.heap.size, 0, none⟩ (.int .i64 0)).setCell ⟨e.w.heap.size, 1, none⟩ (.int .u64 n) := ⟨_, rfl⟩; rw [← hWb] at hbb; have qb : Ext e.w Wb := (by rw [hWb]; exact ((hxa.setCell (Nat.le_refl _) _).setCell (Nat.le_refl _) _)); have qq := e.ext.trans qb; obtain ⟨eb, heb⟩ := Later.mk_ex (Ext.refl Wb); have hVa := hWa.symm; have hVb := hWb.symm.trans heb; obtain ⟨u0, u1⟩ := hbb.later2; replace c0 := cellL c0 qq; replace c1 := cellL c1 qq; replace c2 := cellL c2 qq; replace c3 := cellL c3 qq; replace c4 := cellL c4 qq; replace c5 := cellL c5 qq; replace Q01 := hide (Q01.out.trans qq); clear hWa hxa hba hbb hWb qb heb qq))
        all_goals
          first | (go_ret; exact ⟨rfl, Q01.out.trans (Later.ext _)⟩) | skip
      · have d2 : decide (1 ≤ n) = false := decide_eq_false h2
        clear ER N0 N1 W0 W1' W2
        simp only at KW KN
        go_enter Tryd.func9, Tryd.ntmps9
        go_wp2_with (first
          | (go_at_call 12; refine (GL.out.at_ _).mono ?_; rintro _ _ ⟨rfl, e, rfl⟩)
          | (go_at_call 13; refine (GF.out.at_ _).mono ?_; rintro _ _ ⟨rfl, e, rfl⟩)
          | (go_at_call 14; refine (KE.out.at_ _).mono ?_; rintro _ _ ⟨rfl, e, rfl⟩)
          | (go_at_call 18; refine (KW.out.at_ _).mono ?_; rintro _ _ ⟨rfl, e, rfl⟩)
          | (go_at_call 20; refine (KN.out.at_ _).mono ?_; rintro _ _ ⟨rfl, e, rfl⟩; obtain ⟨Wa, hWa, hxa, hba⟩ := box2 e.w (.int .i64 0) (.int .u64 0) 36; obtain ⟨ga0, ga1⟩ := hba.free2; obtain ⟨gm0, gm1⟩ := hba.get2; have hbb := hba.store2 (.int .i64 0) (.int .u64 n); obtain ⟨Wb, hWb⟩ : ∃ Wb, Wb = (Wa.setCell ⟨e.w.heap.size, 0, none⟩ (.int .i64 0)).setCell ⟨e.w.heap.size, 1, none⟩ (.int .u64 n) := ⟨_, rfl⟩; rw [← hWb] at hbb; have qb : Ext e.w Wb := (by rw [hWb]; exact ((hxa.setCell (Nat.le_refl _) _).setCell (Nat.le_refl _) _)); have qq := e.ext.trans qb; obtain ⟨eb, heb⟩ := Later.mk_ex (Ext.refl Wb); have hVa := hWa.symm; have hVb := hWb.symm.trans heb; obtain ⟨u0, u1⟩ := hbb.later2; replace c0 := cellL c0 qq; replace c1 := cellL c1 qq; replace c2 := cellL c2 qq; replace c3 := cellL c3 qq; replace c4 := cellL c4 qq; replace c5 := cellL c5 qq; replace Q01 := hide (Q01.out.trans qq); clear hWa hxa hba hbb hWb qb heb qq))
        all_goals
          first | (go_ret; exact ⟨rfl, Q01.out.trans (Later.ext _)⟩) | skip
  · have hz := ER he
    subst hz
    have hrw := W0 he
    subst hrw
    have g0 : (e == 0) = false := by simpa using he
    have g1 : (e != 0) = true := by simpa using he
    by_cases ho : x.op = 1
    · have o1 : (x.op == 1) = true := by simpa using ho
      clear ER N0 N1 W0 W1' W2 hn0 hn1 he ho
      simp only at KW KN
      go_enter Tryd.func9, Tryd.ntmps9
      go_wp2_with (first
        | (go_at_call 12; refine (GL.out.at_ _).mono ?_; rintro _ _ ⟨rfl, e, rfl⟩)
        | (go_at_call 13; refine (GF.out.at_ _).mono ?_; rintro _ _ ⟨rfl, e, rfl⟩)
        | (go_at_call 14; refine (KE.out.at_ _).mono ?_; rintro _ _ ⟨rfl, e, rfl⟩)
        | (go_at_call 18; refine (KW.out.at_ _).mono ?_; rintro _ _ ⟨rfl, e, rfl⟩)
        | (go_at_call 20; refine (KN.out.at_ _).mono ?_; rintro _ _ ⟨rfl, e, rfl⟩; obtain ⟨Wa, hWa, hxa, hba⟩ := box2 e.w (.int .i64 0) (.int .u64 0) 36; obtain ⟨ga0, ga1⟩ := hba.free2; obtain ⟨gm0, gm1⟩ := hba.get2; have hbb := hba.store2 (.int .i64 rn.1.1) (.int .u64 rn.1.2); obtain ⟨Wb, hWb⟩ : ∃ Wb, Wb = (Wa.setCell ⟨e.w.heap.size, 0, none⟩ (.int .i64 rn.1.1)).setCell ⟨e.w.heap.size, 1, none⟩ (.int .u64 rn.1.2) := ⟨_, rfl⟩; rw [← hWb] at hbb; have qb : Ext e.w Wb := (by rw [hWb]; exact ((hxa.setCell (Nat.le_refl _) _).setCell (Nat.le_refl _) _)); have qq := e.ext.trans qb; obtain ⟨eb, heb⟩ := Later.mk_ex (Ext.refl Wb); have hVa := hWa.symm; have hVb := hWb.symm.trans heb; obtain ⟨u0, u1⟩ := hbb.later2; replace c0 := cellL c0 qq; replace c1 := cellL c1 qq; replace c2 := cellL c2 qq; replace c3 := cellL c3 qq; replace c4 := cellL c4 qq; replace c5 := cellL c5 qq; replace Q01 := hide (Q01.out.trans qq); clear hWa hxa hba hbb hWb qb heb qq))
      all_goals
        first | (go_ret; exact ⟨rfl, Q01.out.trans (Later.ext _)⟩) | skip
    · have hrn := N1 he ho
      subst hrn
      have o1 : (x.op == 1) = false := by simpa using ho
      clear ER N0 N1 W0 W1' W2 hn0 hn1 he ho
      simp only at KW KN
      go_enter Tryd.func9, Tryd.ntmps9
      go_wp2_with (first
        | (go_at_call 12; refine (GL.out.at_ _).mono ?_; rintro _ _ ⟨rfl, e, rfl⟩)
        | (go_at_call 13; refine (GF.out.at_ _).mono ?_; rintro _ _ ⟨rfl, e, rfl⟩)
        | (go_at_call 14; refine (KE.out.at_ _).mono ?_; rintro _ _ ⟨rfl, e, rfl⟩)
        | (go_at_call 18; refine (KW.out.at_ _).mono ?_; rintro _ _ ⟨rfl, e, rfl⟩)
        | (go_at_call 20; refine (KN.out.at_ _).mono ?_; rintro _ _ ⟨rfl, e, rfl⟩; obtain ⟨Wa, hWa, hxa, hba⟩ := box2 e.w (.int .i64 0) (.int .u64 0) 36; obtain ⟨ga0, ga1⟩ := hba.free2; obtain ⟨gm0, gm1⟩ := hba.get2; have hbb := hba.store2 (.int .i64 0) (.int .u64 0); obtain ⟨Wb, hWb⟩ : ∃ Wb, Wb = (Wa.setCell ⟨e.w.heap.size, 0, none⟩ (.int .i64 0)).setCell ⟨e.w.heap.size, 1, none⟩ (.int .u64 0) := ⟨_, rfl⟩; rw [← hWb] at hbb; have qb : Ext e.w Wb := (by rw [hWb]; exact ((hxa.setCell (Nat.le_refl _) _).setCell (Nat.le_refl _) _)); have qq := e.ext.trans qb; obtain ⟨eb, heb⟩ := Later.mk_ex (Ext.refl Wb); have hVa := hWa.symm; have hVb := hWb.symm.trans heb; obtain ⟨u0, u1⟩ := hbb.later2; replace c0 := cellL c0 qq; replace c1 := cellL c1 qq; replace c2 := cellL c2 qq; replace c3 := cellL c3 qq; replace c4 := cellL c4 qq; replace c5 := cellL c5 qq; replace Q01 := hide (Q01.out.trans qq); clear hWa hxa hba hbb hWb qb heb qq))
      all_goals
        first | (go_ret; exact ⟨rfl, Q01.out.trans (Later.ext _)⟩) | skip

end Go.Proofs.YtonbgnaopkopoaaDoor
