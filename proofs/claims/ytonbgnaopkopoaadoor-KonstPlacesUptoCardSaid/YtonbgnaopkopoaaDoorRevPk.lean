/-
  THE DOCUMENT's ANSWER OF CHAPTER 06: Eval, Width, Number.
-/
import Derived.Test.YtonbgnaopkopoaaDoorRonePk
namespace Go.Proofs.YtonbgnaopkopoaaDoor
open Go Go.RowKit
set_option linter.all false
set_option linter.unusedVariables false
set_option linter.unusedSimpArgs false
set_option linter.unusedVariables false
set_option linter.unusedSimpArgs false
attribute [local go_sem] run_store_one

theorem evalW_bd {env : List (ByteArray × Int)} {x : X} : 0 ≤ (evalW env x).1 ∧ (evalW env x).1 ≤ 2147483647 := by
  unfold evalW
  split
  · exact eval_val
  · exact ⟨by decide, by decide⟩
theorem evalW_err {env : List (ByteArray × Int)} {x : X} (h : (evalW env x).2 ≠ 0) : (evalW env x).1 = 0 := by
  unfold evalW at *
  split
  · rename_i hc
    rw [if_pos hc] at h
    rcases okK_eval (lookE env) x with ⟨h1, -⟩ | ⟨-, h1⟩
    · exact absurd h1 h
    · exact h1
  · rfl

set_option maxRecDepth 20000 in
set_option maxHeartbeats 1000000 in
theorem rEval_any (B : Nat) (env : List (ByteArray × Int)) (x : X) (w : World) (ve : Value) (cs : List Value) (hT : Tabs w) (hR : RX w B x cs) (hS : Sl RNm w B 2 env ve) (hB : B ≤ w.heap.size) (hsz : sizeX x ≤ 1000000000) (hv : VX x) (hln : env.length ≤ 1000000000) :
    Calls Tryd.prog 15 #[.agg cs.toArray, ve] w fun e w' => e = .returned (pairV (evalW env x)) ∧ Ext w w' := by
  have HR := hide hR
  have HT := hide hT
  have HS := hide hS
  obtain ⟨x5, rfl, hS5⟩ := RX_iff.1 hR
  have o5 := hS5.oneCell
  have oe := hS.oneCell
  obtain ⟨W1, e1, hV1, hx1, hs1, c0, c1, c2, c3, c4, c5⟩ := boxL6 w (.int .i64 x.op) (.string x.name) (.int .i64 x.n) (.int .i64 x.w) (.int .u64 x.v) x5 25
  have hB1 : B ≤ W1.heap.size := Nat.le_trans hB hx1.size
  have KC := hide (show ECalls Tryd.prog 38 #[.agg #[.int .i64 x.op, .string x.name, .int .i64 x.n, .int .i64 x.w, .int .u64 x.v, x5]] W1 (.int .i64 (checkX x)) from fun w' hw => refCheckX_any B x w' _ (HR.out.ext (hx1.trans hw) hB) (Nat.le_trans hB1 hw.size) hsz hv)
  have Q01 := hide hx1
  by_cases hc : checkX x = 0
  · have KE := hide (show ECalls Tryd.prog 39 #[.agg #[.int .i64 x.op, .string x.name, .int .i64 x.n, .int .i64 x.w, .int .u64 x.v, x5], ve] W1 (pairV (evalX (lookE env) x)) from fun w' hw => reval_any B env ve hln x ((checkX_zero.1 hc).2.2) hv w' _ (HR.out.ext (hx1.trans hw) hB) (Nat.le_trans hB1 hw.size) (HS.out.extN (hx1.trans hw) hB))
    rw [hc] at KC
    rw [show evalW env x = evalX (lookE env) x from if_pos hc]
    clear hT hR hS hS5 hx1 hsz HR HT HS hc hv hB1
    generalize evalX (lookE env) x = r at *
    obtain ⟨r1, r2⟩ := r
    unfold pairV at *
    simp only at KE ⊢
    go_enter Tryd.func15, Tryd.ntmps15
    go_wp2_with (first
      | (go_at_call 38; refine (KC.out.at_ _).mono ?_; rintro _ _ ⟨rfl, e, rfl⟩)
      | (go_at_call 39; refine (KE.out.at_ _).mono ?_; rintro _ _ ⟨rfl, e, rfl⟩))
    go_ret2
    exact ⟨rfl, Q01.out.trans (Later.ext _)⟩
  · rw [show evalW env x = (0, 1) from if_neg hc]
    clear hT hR hS hS5 hx1 hsz HR HT HS hv hB1
    generalize checkX x = tx at *
    have hc' : ((tx : Int) == 0) = false := by simpa using hc
    have hc2 : ((tx : Int) != 0) = true := by simpa using hc
    clear hc
    unfold pairV
    go_enter Tryd.func15, Tryd.ntmps15
    go_wp2_with (go_at_call 38; refine (KC.out.at_ _).mono ?_; rintro _ _ ⟨rfl, e, rfl⟩)
    go_ret2
    exact ⟨rfl, Q01.out.trans (Later.ext _)⟩

set_option maxRecDepth 20000 in
set_option maxHeartbeats 1000000 in
theorem rWidth_any (B : Nat) (env : List (ByteArray × Int)) (x : X) (w : World) (ve : Value) (cs : List Value) (hT : Tabs w) (hR : RX w B x cs) (hS : Sl RNm w B 2 env ve) (hB : B ≤ w.heap.size) (hsz : sizeX x ≤ 1000000000) (hv : VX x) (hln : env.length ≤ 1000000000) :
    Calls Tryd.prog 19 #[.agg cs.toArray, ve] w fun e w' => e = .returned (pairV (widthK env x)) ∧ Ext w w' := by
  have HR := hide hR
  have HT := hide hT
  have HS := hide hS
  obtain ⟨x5, rfl, hS5⟩ := RX_iff.1 hR
  have o5 := hS5.oneCell
  have oe := hS.oneCell
  obtain ⟨W1, e1, hV1, hx1, hs1, c0, c1, c2, c3, c4, c5⟩ := boxL6 w (.int .i64 x.op) (.string x.name) (.int .i64 x.n) (.int .i64 x.w) (.int .u64 x.v) x5 25
  have hB1 : B ≤ W1.heap.size := Nat.le_trans hB hx1.size
  have KE := hide (show ECalls Tryd.prog 15 #[.agg #[.int .i64 x.op, .string x.name, .int .i64 x.n, .int .i64 x.w, .int .u64 x.v, x5], ve] W1 (pairV (evalW env x)) from fun w' hw => rEval_any B env x w' ve _ (HT.out.ext (hx1.trans hw)) (HR.out.ext (hx1.trans hw) hB) (HS.out.extN (hx1.trans hw) hB) (Nat.le_trans hB1 hw.size) hsz hv hln)
  have Q01 := hide hx1
  have herr : (evalW env x).2 ≠ 0 → (evalW env x).1 = 0 := evalW_err
  have hwd : widthK env x = if (evalW env x).2 = 0 ∧ ((evalW env x).1 < 1 ∨ 64 < (evalW env x).1) then (0, 83) else evalW env x := rfl
  rw [hwd]
  clear hT hR hS hS5 hx1 hsz HR HT HS hwd
  generalize evalW env x = r at *
  obtain ⟨r1, r2⟩ := r
  unfold pairV at *
  simp only at KE herr ⊢
  by_cases h2 : r2 = 0
  · clear herr
    by_cases h1 : r1 < 1
    · rw [if_pos ⟨h2, .inl h1⟩]
      subst h2
      go_enter Tryd.func19, Tryd.ntmps19
      go_wp2_with (go_at_call 15; refine (KE.out.at_ _).mono ?_; rintro _ _ ⟨rfl, e, rfl⟩)
      go_ret2
      exact ⟨rfl, Q01.out.trans (Later.ext _)⟩
    · by_cases h3 : 64 < r1
      · rw [if_pos ⟨h2, .inr h3⟩]
        subst h2
        have h1' : decide (r1 < 1) = false := by simpa using h1
        clear h1
        go_enter Tryd.func19, Tryd.ntmps19
        go_wp2_with (go_at_call 15; refine (KE.out.at_ _).mono ?_; rintro _ _ ⟨rfl, e, rfl⟩)
        go_ret2
        exact ⟨rfl, Q01.out.trans (Later.ext _)⟩
      · rw [if_neg (by omega)]
        subst h2
        have h1' : decide (r1 < 1) = false := by simpa using h1
        have h3' : decide (64 < r1) = false := by simpa using h3
        clear h1 h3
        go_enter Tryd.func19, Tryd.ntmps19
        go_wp2_with (go_at_call 15; refine (KE.out.at_ _).mono ?_; rintro _ _ ⟨rfl, e, rfl⟩)
        go_ret2
        exact ⟨rfl, Q01.out.trans (Later.ext _)⟩
  · rw [if_neg (fun h => h2 h.1)]
    obtain rfl := herr h2
    have h2' : ((r2 : Int) == 0) = false := by simpa using h2
    have h2'' : ((r2 : Int) != 0) = true := by simpa using h2
    clear h2 herr
    go_enter Tryd.func19, Tryd.ntmps19
    go_wp2_with (go_at_call 15; refine (KE.out.at_ _).mono ?_; rintro _ _ ⟨rfl, e, rfl⟩)
    go_ret2
    exact ⟨rfl, Q01.out.trans (Later.ext _)⟩

set_option maxRecDepth 20000 in
set_option maxHeartbeats 1000000 in
theorem rNumber_any (B : Nat) (env : List (ByteArray × Int)) (x : X) (w : World) (ve : Value) (cs : List Value) (hT : Tabs w) (hR : RX w B x cs) (hS : Sl RNm w B 2 env ve) (hB : B ≤ w.heap.size) (hsz : sizeX x ≤ 1000000000) (hv : VX x) (hln : env.length ≤ 1000000000) :
    Calls Tryd.prog 21 #[.agg cs.toArray, ve] w fun e w' => e = .returned (.tuple #[.agg #[.int .i64 (numK env x).1.1, .int .u64 (numK env x).1.2], .int .i64 (numK env x).2]) ∧ Ext w w' := by
  have HR := hide hR
  have HT := hide hT
  have HS := hide hS
  obtain ⟨x5, rfl, hS5⟩ := RX_iff.1 hR
  have o5 := hS5.oneCell
  have oe := hS.oneCell
  obtain ⟨W1, e1, hV1, hx1, hs1, c0, c1, c2, c3, c4, c5⟩ := boxL6 w (.int .i64 x.op) (.string x.name) (.int .i64 x.n) (.int .i64 x.w) (.int .u64 x.v) x5 25
  obtain ⟨W2, hW2, hx2, hb2⟩ := box2 e1.w (.int .i64 0) (.int .u64 0) 36
  obtain ⟨e2, he2⟩ := Later.mk_ex (Ext.refl W2)
  have hV2 := hW2.symm.trans he2
  have q12 := e1.ext.trans hx2
  have q02 := hx1.trans q12
  have hg : w.heap.size ≤ e1.w.heap.size := Nat.le_trans hx1.size e1.ext.size
  have hB2 : B ≤ W2.heap.size := Nat.le_trans hB q02.size
  have KC := hide (show ECalls Tryd.prog 38 #[.agg #[.int .i64 x.op, .string x.name, .int .i64 x.n, .int .i64 x.w, .int .u64 x.v, x5]] W2 (.int .i64 (checkX x)) from fun w' hw => refCheckX_any B x w' _ (HR.out.ext (q02.trans hw) hB) (Nat.le_trans hB2 hw.size) hsz hv)
  have KE := hide (show ECalls Tryd.prog 15 #[.agg #[.int .i64 x.op, .string x.name, .int .i64 x.n, .int .i64 x.w, .int .u64 x.v, x5], ve] W2 (pairV (evalW env x)) from fun w' hw => rEval_any B env x w' ve _ (HT.out.ext (q02.trans hw)) (HR.out.ext (q02.trans hw) hB) (HS.out.extN (q02.trans hw) hB) (Nat.le_trans hB2 hw.size) hsz hv hln)
  have c0 := cellL c0 q12
  have c1 := cellL c1 q12
  have c2 := cellL c2 q12
  have c3 := cellL c3 q12
  have c4 := cellL c4 q12
  have c5 := cellL c5 q12
  have Q02 := hide q02
  have HB2 := hide hb2
  have hbd := evalW_bd (env := env) (x := x)
  have herr : (evalW env x).2 ≠ 0 → (evalW env x).1 = 0 := evalW_err
  have hnum : numK env x = if x.op = 1 ∧ checkX x = 0 then ((x.w, x.v), 0) else ((0, (evalW env x).1), (evalW env x).2) := rfl
  rw [hnum]
  clear hT hR hS hS5 hx1 hsz HR HT HS hnum hv hW2 he2 hx2 hb2 q12 q02
  generalize evalW env x = r at *
  obtain ⟨r1, r2⟩ := r
  unfold pairV at *
  simp only at KE hbd herr ⊢
  obtain ⟨hbd0, hbd1⟩ := hbd
  by_cases h1 : x.op = 1
  · by_cases hc : checkX x = 0
    · rw [if_pos ⟨h1, hc⟩]
      rw [hc] at KC
      generalize x.op = op at *
      subst h1
      clear hc herr
      go_enter Tryd.func21, Tryd.ntmps21
      go_wp2_with fail
      refine (KC.out.at_ _).mono ?_
      rintro _ _ ⟨rfl, e, rfl⟩
      have hbe := HB2.out.ext e.ext
      obtain ⟨d0, d1⟩ := hbe.get2
      obtain ⟨f0, f1⟩ := hbe.free2
      obtain ⟨Wz, hWz⟩ : ∃ Wz, Wz = (e.w.setCell ⟨e1.w.heap.size, 0, none⟩ (.int .i64 x.w)).setCell ⟨e1.w.heap.size, 1, none⟩ (.int .u64 x.v) := ⟨_, rfl⟩
      have hbz := hbe.store2 (.int .i64 x.w) (.int .u64 x.v)
      rw [← hWz] at hbz
      obtain ⟨z0, z1⟩ := hbz.get2
      have HFIN := hide (show Ext w Wz by rw [hWz]; exact ((Q02.out.trans e.ext).setCell hg _).setCell hg _)
      have hVz := hWz.symm
      clear hbe hbz hWz
      go_wp2_with fail
      refine bodyPost_ret (v := .tuple #[.agg #[.int .i64 x.w, .int .u64 x.v], .int .i64 0]) ?_ rfl ⟨rfl, HFIN.out⟩
      simp [results, Tryd.results21, go_sem, z0, z1]
    · rw [if_neg (fun h => hc h.2)]
      generalize x.op = op at *
      subst h1
      generalize checkX x = tx at *
      have hc' : ((tx : Int) == 0) = false := by simpa using hc
      clear hc
      by_cases hr : r2 = 0
      · subst hr
        clear herr
        go_enter Tryd.func21, Tryd.ntmps21
        go_wp2_with (go_at_call 38; refine (KC.out.at_ _).mono ?_; rintro _ _ ⟨rfl, e, rfl⟩)
        refine (KE.out.at_ _).mono ?_
        rintro _ _ ⟨rfl, e, rfl⟩
        have hbe := HB2.out.ext e.ext
        obtain ⟨d0, d1⟩ := hbe.get2
        obtain ⟨f0, f1⟩ := hbe.free2
        obtain ⟨Wz, hWz⟩ : ∃ Wz, Wz = (e.w.setCell ⟨e1.w.heap.size, 0, none⟩ (.int .i64 0)).setCell ⟨e1.w.heap.size, 1, none⟩ (.int .u64 r1) := ⟨_, rfl⟩
        have hbz := hbe.store2 (.int .i64 0) (.int .u64 r1)
        rw [← hWz] at hbz
        obtain ⟨z0, z1⟩ := hbz.get2
        have HFIN := hide (show Ext w Wz by rw [hWz]; exact ((Q02.out.trans e.ext).setCell hg _).setCell hg _)
        have hVz := hWz.symm
        clear hbe hbz hWz
        go_wp2_with fail
        refine bodyPost_ret (v := .tuple #[.agg #[.int .i64 0, .int .u64 r1], .int .i64 0]) ?_ rfl ⟨rfl, HFIN.out⟩
        simp [results, Tryd.results21, go_sem, z0, z1]
      · obtain rfl := herr hr
        have hr' : ((r2 : Int) == 0) = false := by simpa using hr
        have hr'' : ((r2 : Int) != 0) = true := by simpa using hr
        clear hr herr
        go_enter Tryd.func21, Tryd.ntmps21
        go_wp2_with (go_at_call 38; refine (KC.out.at_ _).mono ?_; rintro _ _ ⟨rfl, e, rfl⟩)
        refine (KE.out.at_ _).mono ?_
        rintro _ _ ⟨rfl, e, rfl⟩
        have hbe := HB2.out.ext e.ext
        obtain ⟨d0, d1⟩ := hbe.get2
        obtain ⟨f0, f1⟩ := hbe.free2
        obtain ⟨Wz, hWz⟩ : ∃ Wz, Wz = (e.w.setCell ⟨e1.w.heap.size, 0, none⟩ (.int .i64 0)).setCell ⟨e1.w.heap.size, 1, none⟩ (.int .u64 0) := ⟨_, rfl⟩
        have hbz := hbe.store2 (.int .i64 0) (.int .u64 0)
        rw [← hWz] at hbz
        obtain ⟨z0, z1⟩ := hbz.get2
        have HFIN := hide (show Ext w Wz by rw [hWz]; exact ((Q02.out.trans e.ext).setCell hg _).setCell hg _)
        have hVz := hWz.symm
        clear hbe hbz hWz
        go_wp2_with fail
        refine bodyPost_ret (v := .tuple #[.agg #[.int .i64 0, .int .u64 0], .int .i64 r2]) ?_ rfl ⟨rfl, HFIN.out⟩
        simp [results, Tryd.results21, go_sem, z0, z1]
  · rw [if_neg (fun h => h1 h.1)]
    have h1' : ((x.op : Int) == 1) = false := by simpa using h1
    clear h1
    by_cases hr : r2 = 0
    · subst hr
      clear herr
      go_enter Tryd.func21, Tryd.ntmps21
      go_wp2_with fail
      refine (KE.out.at_ _).mono ?_
      rintro _ _ ⟨rfl, e, rfl⟩
      have hbe := HB2.out.ext e.ext
      obtain ⟨d0, d1⟩ := hbe.get2
      obtain ⟨f0, f1⟩ := hbe.free2
      obtain ⟨Wz, hWz⟩ : ∃ Wz, Wz = (e.w.setCell ⟨e1.w.heap.size, 0, none⟩ (.int .i64 0)).setCell ⟨e1.w.heap.size, 1, none⟩ (.int .u64 r1) := ⟨_, rfl⟩
      have hbz := hbe.store2 (.int .i64 0) (.int .u64 r1)
      rw [← hWz] at hbz
      obtain ⟨z0, z1⟩ := hbz.get2
      have HFIN := hide (show Ext w Wz by rw [hWz]; exact ((Q02.out.trans e.ext).setCell hg _).setCell hg _)
      have hVz := hWz.symm
      clear hbe hbz hWz
      go_wp2_with fail
      refine bodyPost_ret (v := .tuple #[.agg #[.int .i64 0, .int .u64 r1], .int .i64 0]) ?_ rfl ⟨rfl, HFIN.out⟩
      simp [results, Tryd.results21, go_sem, z0, z1]
    · obtain rfl := herr hr
      have hr' : ((r2 : Int) == 0) = false := by simpa using hr
      have hr'' : ((r2 : Int) != 0) = true := by simpa using hr
      clear hr herr
      go_enter Tryd.func21, Tryd.ntmps21
      go_wp2_with fail
      refine (KE.out.at_ _).mono ?_
      rintro _ _ ⟨rfl, e, rfl⟩
      have hbe := HB2.out.ext e.ext
      obtain ⟨d0, d1⟩ := hbe.get2
      obtain ⟨f0, f1⟩ := hbe.free2
      obtain ⟨Wz, hWz⟩ : ∃ Wz, Wz = (e.w.setCell ⟨e1.w.heap.size, 0, none⟩ (.int .i64 0)).setCell ⟨e1.w.heap.size, 1, none⟩ (.int .u64 0) := ⟨_, rfl⟩
      have hbz := hbe.store2 (.int .i64 0) (.int .u64 0)
      rw [← hWz] at hbz
      obtain ⟨z0, z1⟩ := hbz.get2
      have HFIN := hide (show Ext w Wz by rw [hWz]; exact ((Q02.out.trans e.ext).setCell hg _).setCell hg _)
      have hVz := hWz.symm
      clear hbe hbz hWz
      go_wp2_with fail
      refine bodyPost_ret (v := .tuple #[.agg #[.int .i64 0, .int .u64 0], .int .i64 r2]) ?_ rfl ⟨rfl, HFIN.out⟩
      simp [results, Tryd.results21, go_sem, z0, z1]

end Go.Proofs.YtonbgnaopkopoaaDoor
