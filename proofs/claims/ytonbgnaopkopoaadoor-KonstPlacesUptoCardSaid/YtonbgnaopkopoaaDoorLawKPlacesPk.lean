/-
  THE LAW KonstPlaces: WHAT IT COMPUTES.
-/
import Derived.Test.YtonbgnaopkopoaaDoorKlivePk
import Derived.Test.YtonbgnaopkopoaaDoorRevPk
import Derived.Test.YtonbgnaopkopoaaDoorRsubPk
import Derived.Test.YtonbgnaopkopoaaDoorFactsGPk
namespace Go.Proofs.YtonbgnaopkopoaaDoor
open Go Go.RowKit
set_option linter.all false
set_option linter.unusedVariables false
set_option linter.unusedSimpArgs false
set_option linter.unusedVariables false
set_option linter.unusedSimpArgs false
attribute [local go_sem] run_store_one

/-- The document's Subst, of every expression. -/
theorem rsub_any (B : Nat) (env : List (ByteArray × Int)) (ve : Value) (hln : env.length ≤ 1000000000) (x : X) : sizeX x ≤ 100000000 → SubOkR B env ve x := by
  induction x using X.ind with
  | h x ih =>
    intro hsz
    by_cases h2 : x.op = 2
    · exact rsub_name B env ve hln x h2
    · have hl := length_le_msize sizeX x.l sizeX_pos
      have hs := sizeX_eq x
      exact rsub_other B env ve hln x h2 (by omega) fun y hy => ih y hy (by have := msize_mem sizeX x.l y hy; omega)
theorem dn_lt {B N M b : Nat} (h : DN B N M b) (hB : B ≤ M) : b < M := by
  rcases h with h | h
  · omega
  · exact h.2
/-- A call that tells an expression. -/
def XCalls (P : Program) (f : FuncId) (args : Array Value) (W : World) (y : X) : Prop := ∀ w, Ext W w → Calls P f args w fun r w' => ∃ cs', r = .returned (.agg cs'.toArray) ∧ RX w' w'.heap.size y cs' ∧ Ext w w'
theorem XCalls.later {P : Program} {f : FuncId} {args : Array Value} {W W1 : World} {y : X} (h : XCalls P f args W y) (hx : Ext W W1) : XCalls P f args W1 y := fun w hw => h w (hx.trans hw)
theorem xcalls_k {B : Nat} {env : List (ByteArray × Int)} {ve : Value} (hln : env.length ≤ 1000000000) {x : X} {W : World} {cs : List Value} (hsz : sizeX x ≤ 100000000) (hR : RX W B x cs) (hB : B ≤ W.heap.size) (hS : Sl RNm W B 2 env ve) :
    XCalls Tryd.prog 23 #[.agg cs.toArray, ve] W (substX (lookE env) x) := fun w hw =>
  (ksub_any B env ve hln x hsz w cs (hR.ext hw hB) (Nat.le_trans hB hw.size) (hS.extN hw hB)).mono fun r w' ⟨cs', h1, h2, h3⟩ =>
    ⟨cs', h1, h2.rx (fun b hb => dn_lt hb (Nat.le_trans hB (hw.trans h3).size)) _, h3⟩
theorem xcalls_r {B : Nat} {env : List (ByteArray × Int)} {ve : Value} (hln : env.length ≤ 1000000000) {x : X} {W : World} {cs : List Value} (hsz : sizeX x ≤ 100000000) (hR : RX W B x cs) (hB : B ≤ W.heap.size) (hS : Sl RNm W B 2 env ve) :
    XCalls Tryd.prog 24 #[.agg cs.toArray, ve] W (substX (lookE env) x) := fun w hw =>
  (rsub_any B env ve hln x hsz w cs (hR.ext hw hB) (Nat.le_trans hB hw.size) (hS.extN hw hB)).mono fun r w' ⟨cs', h1, h2, h3⟩ =>
    ⟨cs', h1, h2.rx (fun b hb => dn_lt hb (Nat.le_trans hB (hw.trans h3).size)) _, h3⟩

/-- What is known of the values of the last region. -/
def plaF (cx : List Value) (ve cb : Value) (y : X) (w1 w2 n3 : Int) (i : Nat) (v : Value) (w : World) : Prop := match i with
  | 0 | 1 | 4 | 5 | 6 | 9 | 10 | 11 | 14 | 15 | 16 | 19 | 20 | 21 | 28 | 29 | 30 => v = .bool true
  | 2 | 3 => v = .int .i64 w1
  | 7 | 8 => v = .int .i64 w2
  | 12 | 13 => v = cb
  | 17 | 18 => v = .int .i64 n3
  | 22 | 25 => v = .agg cx.toArray
  | 23 | 26 => v = ve
  | 24 | 27 => ∃ cs, v = .agg cs.toArray ∧ RX w w.heap.size y cs
  | _ => True
theorem plaF_ext {cx : List Value} {ve cb : Value} {y : X} {w1 w2 n3 : Int} {i : Nat} {v : Value} {w w' : World} (h : plaF cx ve cb y w1 w2 n3 i v w) (hx : Ext w w') : plaF cx ve cb y w1 w2 n3 i v w' := by
  unfold plaF at *
  split at h
  all_goals first | exact h | (obtain ⟨q, h1, h2⟩ := h; exact ⟨q, h1, (h2.ext hx (Nat.le_refl _)).more hx.size⟩)

set_option maxRecDepth 20000 in
set_option maxHeartbeats 4000000 in
theorem lawKPlaces_any (B : Nat) (env : List (ByteArray × Int)) (x : X) (w : World) (ve : Value) (cs : List Value) (hT : Tabs w) (hR : RX w B x cs) (hS : Sl RNm w B 2 env ve) (hB : B ≤ w.heap.size) (hsz : sizeX x ≤ 100000000) (hv : VX x) (hln : env.length ≤ 1000000000) :
    Calls Tryd.prog 4 #[.agg cs.toArray, ve] w fun e w' => e = .returned (.bool true) ∧ Ext w w' := by
  have HR := hide hR
  have HT := hide hT
  have HS := hide hS
  obtain ⟨x5, rfl, hS5⟩ := RX_iff.1 hR
  have o5 := hS5.oneCell
  have oe := hS.oneCell
  have hsz9 : sizeX x ≤ 1000000000 := by omega
  obtain ⟨W1, e1, hV1, hx1, hs1, c0, c1, c2, c3, c4, c5⟩ := boxL6 w (.int .i64 x.op) (.string x.name) (.int .i64 x.n) (.int .i64 x.w) (.int .u64 x.v) x5 25
  have hB1 : B ≤ W1.heap.size := Nat.le_trans hB hx1.size
  have GL := hide (show ECalls Tryd.prog 12 #[] W1 (.bool true) from fun w' hw => live6_any w' (HT.out.ext (hx1.trans hw)))
  have GF := hide (show ECalls Tryd.prog 13 #[.agg #[.int .i64 x.op, .string x.name, .int .i64 x.n, .int .i64 x.w, .int .u64 x.v, x5], ve] W1 (.bool (yes (fewE x env.length))) from fun w' hw => fewE_any B env x w' ve _ (HR.out.ext (hx1.trans hw) hB) (HS.out.extN (hx1.trans hw) hB) (Nat.le_trans hB1 hw.size) hsz9 hln)
  have KW := hide (show ECalls Tryd.prog 18 #[.agg #[.int .i64 x.op, .string x.name, .int .i64 x.n, .int .i64 x.w, .int .u64 x.v, x5], ve] W1 (pairV (widthK env x)) from fun w' hw => kWidth_any B env x w' ve _ (HT.out.ext (hx1.trans hw)) (HR.out.ext (hx1.trans hw) hB) (HS.out.extN (hx1.trans hw) hB) (Nat.le_trans hB1 hw.size) hsz9 hv hln)
  have RW := hide (show ECalls Tryd.prog 19 #[.agg #[.int .i64 x.op, .string x.name, .int .i64 x.n, .int .i64 x.w, .int .u64 x.v, x5], ve] W1 (pairV (widthK env x)) from fun w' hw => rWidth_any B env x w' ve _ (HT.out.ext (hx1.trans hw)) (HR.out.ext (hx1.trans hw) hB) (HS.out.extN (hx1.trans hw) hB) (Nat.le_trans hB1 hw.size) hsz9 hv hln)
  have KN := hide (show ECalls Tryd.prog 20 #[.agg #[.int .i64 x.op, .string x.name, .int .i64 x.n, .int .i64 x.w, .int .u64 x.v, x5], ve] W1 (.tuple #[.agg #[.int .i64 (numK env x).1.1, .int .u64 (numK env x).1.2], .int .i64 (numK env x).2]) from fun w' hw => kNumber_any B env x w' ve _ (HT.out.ext (hx1.trans hw)) (HR.out.ext (hx1.trans hw) hB) (HS.out.extN (hx1.trans hw) hB) (Nat.le_trans hB1 hw.size) hsz9 hv hln)
  have RN := hide (show ECalls Tryd.prog 21 #[.agg #[.int .i64 x.op, .string x.name, .int .i64 x.n, .int .i64 x.w, .int .u64 x.v, x5], ve] W1 (.tuple #[.agg #[.int .i64 (numK env x).1.1, .int .u64 (numK env x).1.2], .int .i64 (numK env x).2]) from fun w' hw => rNumber_any B env x w' ve _ (HT.out.ext (hx1.trans hw)) (HR.out.ext (hx1.trans hw) hB) (HS.out.extN (hx1.trans hw) hB) (Nat.le_trans hB1 hw.size) hsz9 hv hln)
  have KS := hide (xcalls_k hln hsz (HR.out.ext hx1 hB) hB1 (HS.out.extN hx1 hB))
  have RS := hide (xcalls_r hln hsz (HR.out.ext hx1 hB) hB1 (HS.out.extN hx1 hB))
  have hy : sizeX (substX (lookE env) x) ≤ 1000000000 := by have := size_subst (env := lookE env) x; omega
  have SM := hide (show ∀ (w' : World) (ca cb : List Value), RX w' w'.heap.size (substX (lookE env) x) ca → RX w' w'.heap.size (substX (lookE env) x) cb →
      Calls Tryd.prog 22 #[.agg ca.toArray, .agg cb.toArray] w' fun e w'' => e = .returned (.bool true) ∧ Ext w' w'' from
    fun w' ca cb ha hb => same_self (substX (lookE env) x) ▸ refSameX_any w'.heap.size _ _ w' ca cb ha hb (Nat.le_refl _) hy)
  have Q01 := hide hx1
  clear hy hT hR hS hS5 hx1 hsz hsz9 HR HT HS hv hln hB1 hs1
  generalize yes (fewE x env.length) = bf at *
  generalize widthK env x = rw at *
  generalize numK env x = rn at *
  generalize substX (lookE env) x = y at *
  obtain ⟨w1, w2⟩ := rw
  obtain ⟨⟨n1, n2⟩, n3⟩ := rn
  unfold pairV at *
  simp only at KW RW KN RN
  go_enter Tryd.func4, Tryd.ntmps4
  go_wp2_with (first
    | (go_at_call 12; refine (GL.out.at_ _).mono ?_; rintro _ _ ⟨rfl, e, rfl⟩)
    | (go_at_call 13; refine (GF.out.at_ _).mono ?_; rintro _ _ ⟨rfl, e, rfl⟩)
    | (go_at_call 18; refine (KW.out.at_ _).mono ?_; rintro _ _ ⟨rfl, e, rfl⟩)
    | (go_at_call 19; refine (RW.out.at_ _).mono ?_; rintro _ _ ⟨rfl, e, rfl⟩)
    | (go_at_call 20; refine (KN.out.at_ _).mono ?_; rintro _ _ ⟨rfl, e, rfl⟩; obtain ⟨Wa, hWa, hxa, hba⟩ := box2 e.w (.int .i64 0) (.int .u64 0) 36; obtain ⟨ga0, ga1⟩ := hba.free2; obtain ⟨gm0, gm1⟩ := hba.get2; have hbb := hba.store2 (.int .i64 n1) (.int .u64 n2); obtain ⟨Wb, hWb⟩ : ∃ Wb, Wb = (Wa.setCell ⟨e.w.heap.size, 0, none⟩ (.int .i64 n1)).setCell ⟨e.w.heap.size, 1, none⟩ (.int .u64 n2) := ⟨_, rfl⟩; rw [← hWb] at hbb; have qb : Ext e.w Wb := (by rw [hWb]; exact ((hxa.setCell (Nat.le_refl _) _).setCell (Nat.le_refl _) _)); have qq := e.ext.trans qb; obtain ⟨eb, heb⟩ := Later.mk_ex (Ext.refl Wb); have hVa := hWa.symm; have hVb := hWb.symm.trans heb; obtain ⟨u0_, u1_⟩ := hbb.later2; replace c0 := cellL c0 qq; replace c1 := cellL c1 qq; replace c2 := cellL c2 qq; replace c3 := cellL c3 qq; replace c4 := cellL c4 qq; replace c5 := cellL c5 qq; replace Q01 := hide (Q01.out.trans qq); replace RN := hide (RN.out.later qq); replace KS := hide (KS.out.later qq); replace RS := hide (RS.out.later qq); clear hWa hxa hba hbb hWb qb heb qq)
    | (go_at_call 21; refine (RN.out.at_ _).mono ?_; rintro _ _ ⟨rfl, e, rfl⟩; obtain ⟨Wa, hWa, hxa, hba⟩ := box2 e.w (.int .i64 0) (.int .u64 0) 36; obtain ⟨ga0, ga1⟩ := hba.free2; obtain ⟨gm0, gm1⟩ := hba.get2; have hbb := hba.store2 (.int .i64 n1) (.int .u64 n2); obtain ⟨Wb, hWb⟩ : ∃ Wb, Wb = (Wa.setCell ⟨e.w.heap.size, 0, none⟩ (.int .i64 n1)).setCell ⟨e.w.heap.size, 1, none⟩ (.int .u64 n2) := ⟨_, rfl⟩; rw [← hWb] at hbb; have qb : Ext e.w Wb := (by rw [hWb]; exact ((hxa.setCell (Nat.le_refl _) _).setCell (Nat.le_refl _) _)); have qq := e.ext.trans qb; obtain ⟨eb, heb⟩ := Later.mk_ex (Ext.refl Wb); have hVa := hWa.symm; have hVb := hWb.symm.trans heb; obtain ⟨u0, u1⟩ := hbb.later2; replace c0 := cellL c0 qq; replace c1 := cellL c1 qq; replace c2 := cellL c2 qq; replace c3 := cellL c3 qq; replace c4 := cellL c4 qq; replace c5 := cellL c5 qq; replace Q01 := hide (Q01.out.trans qq); replace u0_ := cellL u0_ qq; replace u1_ := cellL u1_ qq; replace KS := hide (KS.out.later qq); replace RS := hide (RS.out.later qq); clear hWa hxa hba hbb hWb qb heb qq))
  all_goals
    first | (go_ret; exact ⟨rfl, Q01.out.trans (Later.ext _)⟩) | skip
  refine wp_region_facts_g (W := _) (plaF [.int .i64 x.op, .string x.name, .int .i64 x.n, .int .i64 x.w, .int .u64 x.v, x5] ve (.agg #[.int .i64 n1, .int .u64 n2]) y w1 w2 n3) (by kernel_rfl) (by kernel_rfl) ?_ (Later.ext _) (fun i v w w' h hx => plaF_ext h hx) ?_ ?_
  · simp [GuardsMet, plaF]
  · refine ⟨?_, ?_, ?_, ?_, ?_, ?_, ?_, ?_, ?_, ?_, ?_, ?_, ?_, ?_, ?_, ?_, ?_, ?_, ?_, ?_, ?_, ?_, ?_, ?_, ?_, ?_, ?_, ?_, ?_, ?_, ?_, trivial⟩
    · intro A wa hxa hd h0
      obtain ⟨ea, rfl⟩ := Later.mk_ex hxa
      have r5 := rest_at h0 5 (by kernel_rfl)
      simp at r5
      clear hd h0
      go_simp
      first | exact ⟨_, rfl, Ext.refl _, rfl⟩ | exact ⟨Ext.refl _, rfl⟩ | exact rfl | exact ⟨_, rfl, rfl⟩
    · intro A wa hxa hd h0
      obtain ⟨ea, rfl⟩ := Later.mk_ex hxa
      have q0 := depOn hd 0 44 (by kernel_rfl) rfl
      simp [plaF] at q0
      clear hd h0
      go_simp
      first | exact ⟨_, rfl, Ext.refl _, rfl⟩ | exact ⟨Ext.refl _, rfl⟩ | exact rfl | exact ⟨_, rfl, rfl⟩
    · intro A wa hxa hd h0
      obtain ⟨ea, rfl⟩ := Later.mk_ex hxa
      have r6 := rest_at h0 6 (by kernel_rfl)
      simp at r6
      clear hd h0
      go_simp
      first | exact ⟨_, rfl, Ext.refl _, rfl⟩ | exact ⟨Ext.refl _, rfl⟩ | exact rfl | exact ⟨_, rfl, rfl⟩
    · intro A wa hxa hd h0
      obtain ⟨ea, rfl⟩ := Later.mk_ex hxa
      have r8 := rest_at h0 8 (by kernel_rfl)
      simp at r8
      clear hd h0
      go_simp
      first | exact ⟨_, rfl, Ext.refl _, rfl⟩ | exact ⟨Ext.refl _, rfl⟩ | exact rfl | exact ⟨_, rfl, rfl⟩
    · intro A wa hxa hd h0
      obtain ⟨ea, rfl⟩ := Later.mk_ex hxa
      have q2 := depOn hd 2 46 (by kernel_rfl) rfl
      simp [plaF] at q2
      have q3 := depOn hd 3 47 (by kernel_rfl) rfl
      simp [plaF] at q3
      clear hd h0
      go_simp
      first | exact ⟨_, rfl, Ext.refl _, rfl⟩ | exact ⟨Ext.refl _, rfl⟩ | exact rfl | exact ⟨_, rfl, rfl⟩
    · intro A wa hxa hd h0
      obtain ⟨ea, rfl⟩ := Later.mk_ex hxa
      have q1 := depOn hd 1 45 (by kernel_rfl) rfl
      simp [plaF] at q1
      have q4 := depOn hd 4 48 (by kernel_rfl) rfl
      simp [plaF] at q4
      clear hd h0
      go_simp
      first | exact ⟨_, rfl, Ext.refl _, rfl⟩ | exact ⟨Ext.refl _, rfl⟩ | exact rfl | exact ⟨_, rfl, rfl⟩
    · intro A wa hxa hd h0
      obtain ⟨ea, rfl⟩ := Later.mk_ex hxa
      have q5 := depOn hd 5 49 (by kernel_rfl) rfl
      simp [plaF] at q5
      clear hd h0
      go_simp
      first | exact ⟨_, rfl, Ext.refl _, rfl⟩ | exact ⟨Ext.refl _, rfl⟩ | exact rfl | exact ⟨_, rfl, rfl⟩
    · intro A wa hxa hd h0
      obtain ⟨ea, rfl⟩ := Later.mk_ex hxa
      have r7 := rest_at h0 7 (by kernel_rfl)
      simp at r7
      clear hd h0
      go_simp
      first | exact ⟨_, rfl, Ext.refl _, rfl⟩ | exact ⟨Ext.refl _, rfl⟩ | exact rfl | exact ⟨_, rfl, rfl⟩
    · intro A wa hxa hd h0
      obtain ⟨ea, rfl⟩ := Later.mk_ex hxa
      have r9 := rest_at h0 9 (by kernel_rfl)
      simp at r9
      clear hd h0
      go_simp
      first | exact ⟨_, rfl, Ext.refl _, rfl⟩ | exact ⟨Ext.refl _, rfl⟩ | exact rfl | exact ⟨_, rfl, rfl⟩
    · intro A wa hxa hd h0
      obtain ⟨ea, rfl⟩ := Later.mk_ex hxa
      have q7 := depOn hd 7 51 (by kernel_rfl) rfl
      simp [plaF] at q7
      have q8 := depOn hd 8 52 (by kernel_rfl) rfl
      simp [plaF] at q8
      clear hd h0
      go_simp
      first | exact ⟨_, rfl, Ext.refl _, rfl⟩ | exact ⟨Ext.refl _, rfl⟩ | exact rfl | exact ⟨_, rfl, rfl⟩
    · intro A wa hxa hd h0
      obtain ⟨ea, rfl⟩ := Later.mk_ex hxa
      have q6 := depOn hd 6 50 (by kernel_rfl) rfl
      simp [plaF] at q6
      have q9 := depOn hd 9 53 (by kernel_rfl) rfl
      simp [plaF] at q9
      clear hd h0
      go_simp
      first | exact ⟨_, rfl, Ext.refl _, rfl⟩ | exact ⟨Ext.refl _, rfl⟩ | exact rfl | exact ⟨_, rfl, rfl⟩
    · intro A wa hxa hd h0
      obtain ⟨ea, rfl⟩ := Later.mk_ex hxa
      have q10 := depOn hd 10 54 (by kernel_rfl) rfl
      simp [plaF] at q10
      clear hd h0
      go_simp
      first | exact ⟨_, rfl, Ext.refl _, rfl⟩ | exact ⟨Ext.refl _, rfl⟩ | exact rfl | exact ⟨_, rfl, rfl⟩
    · intro A wa hxa hd h0
      obtain ⟨ea, rfl⟩ := Later.mk_ex hxa
      have r10 := rest_at h0 10 (by kernel_rfl)
      simp at r10
      clear hd h0
      go_simp
      first | exact ⟨_, rfl, Ext.refl _, rfl⟩ | exact ⟨Ext.refl _, rfl⟩ | exact rfl | exact ⟨_, rfl, rfl⟩
    · intro A wa hxa hd h0
      obtain ⟨ea, rfl⟩ := Later.mk_ex hxa
      have r12 := rest_at h0 12 (by kernel_rfl)
      simp at r12
      clear hd h0
      go_simp
      first | exact ⟨_, rfl, Ext.refl _, rfl⟩ | exact ⟨Ext.refl _, rfl⟩ | exact rfl | exact ⟨_, rfl, rfl⟩
    · intro A wa hxa hd h0
      obtain ⟨ea, rfl⟩ := Later.mk_ex hxa
      have q12 := depOn hd 12 56 (by kernel_rfl) rfl
      simp [plaF] at q12
      have q13 := depOn hd 13 57 (by kernel_rfl) rfl
      simp [plaF] at q13
      clear hd h0
      go_simp
      first | exact ⟨_, rfl, Ext.refl _, rfl⟩ | exact ⟨Ext.refl _, rfl⟩ | exact rfl | exact ⟨_, rfl, rfl⟩
    · intro A wa hxa hd h0
      obtain ⟨ea, rfl⟩ := Later.mk_ex hxa
      have q11 := depOn hd 11 55 (by kernel_rfl) rfl
      simp [plaF] at q11
      have q14 := depOn hd 14 58 (by kernel_rfl) rfl
      simp [plaF] at q14
      clear hd h0
      go_simp
      first | exact ⟨_, rfl, Ext.refl _, rfl⟩ | exact ⟨Ext.refl _, rfl⟩ | exact rfl | exact ⟨_, rfl, rfl⟩
    · intro A wa hxa hd h0
      obtain ⟨ea, rfl⟩ := Later.mk_ex hxa
      have q15 := depOn hd 15 59 (by kernel_rfl) rfl
      simp [plaF] at q15
      clear hd h0
      go_simp
      first | exact ⟨_, rfl, Ext.refl _, rfl⟩ | exact ⟨Ext.refl _, rfl⟩ | exact rfl | exact ⟨_, rfl, rfl⟩
    · intro A wa hxa hd h0
      obtain ⟨ea, rfl⟩ := Later.mk_ex hxa
      have r11 := rest_at h0 11 (by kernel_rfl)
      simp at r11
      clear hd h0
      go_simp
      first | exact ⟨_, rfl, Ext.refl _, rfl⟩ | exact ⟨Ext.refl _, rfl⟩ | exact rfl | exact ⟨_, rfl, rfl⟩
    · intro A wa hxa hd h0
      obtain ⟨ea, rfl⟩ := Later.mk_ex hxa
      have r13 := rest_at h0 13 (by kernel_rfl)
      simp at r13
      clear hd h0
      go_simp
      first | exact ⟨_, rfl, Ext.refl _, rfl⟩ | exact ⟨Ext.refl _, rfl⟩ | exact rfl | exact ⟨_, rfl, rfl⟩
    · intro A wa hxa hd h0
      obtain ⟨ea, rfl⟩ := Later.mk_ex hxa
      have q17 := depOn hd 17 61 (by kernel_rfl) rfl
      simp [plaF] at q17
      have q18 := depOn hd 18 62 (by kernel_rfl) rfl
      simp [plaF] at q18
      clear hd h0
      go_simp
      first | exact ⟨_, rfl, Ext.refl _, rfl⟩ | exact ⟨Ext.refl _, rfl⟩ | exact rfl | exact ⟨_, rfl, rfl⟩
    · intro A wa hxa hd h0
      obtain ⟨ea, rfl⟩ := Later.mk_ex hxa
      have q16 := depOn hd 16 60 (by kernel_rfl) rfl
      simp [plaF] at q16
      have q19 := depOn hd 19 63 (by kernel_rfl) rfl
      simp [plaF] at q19
      clear hd h0
      go_simp
      first | exact ⟨_, rfl, Ext.refl _, rfl⟩ | exact ⟨Ext.refl _, rfl⟩ | exact rfl | exact ⟨_, rfl, rfl⟩
    · intro A wa hxa hd h0
      obtain ⟨ea, rfl⟩ := Later.mk_ex hxa
      have q20 := depOn hd 20 64 (by kernel_rfl) rfl
      simp [plaF] at q20
      clear hd h0
      go_simp
      first | exact ⟨_, rfl, Ext.refl _, rfl⟩ | exact ⟨Ext.refl _, rfl⟩ | exact rfl | exact ⟨_, rfl, rfl⟩
    · intro A wa hxa hd h0
      obtain ⟨ea, rfl⟩ := Later.mk_ex hxa
      have r2 := rest_at h0 2 (by kernel_rfl)
      simp at r2
      clear hd h0
      go_simp
      first | exact ⟨_, rfl, Ext.refl _, rfl⟩ | exact ⟨Ext.refl _, rfl⟩ | exact rfl | exact ⟨_, rfl, rfl⟩
    · intro A wa hxa hd h0
      obtain ⟨ea, rfl⟩ := Later.mk_ex hxa
      have r1 := rest_at h0 1 (by kernel_rfl)
      simp at r1
      clear hd h0
      go_simp
      first | exact ⟨_, rfl, Ext.refl _, rfl⟩ | exact ⟨Ext.refl _, rfl⟩ | exact rfl | exact ⟨_, rfl, rfl⟩
    · intro A wa hxa hd h0
      obtain ⟨ea, rfl⟩ := Later.mk_ex hxa
      have q22 := depOn hd 22 66 (by kernel_rfl) rfl
      simp [plaF] at q22
      have q23 := depOn hd 23 67 (by kernel_rfl) rfl
      simp [plaF] at q23
      clear hd h0
      go_simp
      refine (KS.out ea.w ea.ext).mono ?_
      rintro e w2 ⟨cs, rfl, hR, hx⟩
      go_simp
      first | exact ⟨_, rfl, hx, ⟨cs, rfl, hR⟩⟩ | exact ⟨hx, ⟨cs, rfl, hR⟩⟩ | exact ⟨cs, rfl, hR⟩ | exact ⟨_, rfl, ⟨cs, rfl, hR⟩⟩
    · intro A wa hxa hd h0
      obtain ⟨ea, rfl⟩ := Later.mk_ex hxa
      have r2 := rest_at h0 2 (by kernel_rfl)
      simp at r2
      clear hd h0
      go_simp
      first | exact ⟨_, rfl, Ext.refl _, rfl⟩ | exact ⟨Ext.refl _, rfl⟩ | exact rfl | exact ⟨_, rfl, rfl⟩
    · intro A wa hxa hd h0
      obtain ⟨ea, rfl⟩ := Later.mk_ex hxa
      have r1 := rest_at h0 1 (by kernel_rfl)
      simp at r1
      clear hd h0
      go_simp
      first | exact ⟨_, rfl, Ext.refl _, rfl⟩ | exact ⟨Ext.refl _, rfl⟩ | exact rfl | exact ⟨_, rfl, rfl⟩
    · intro A wa hxa hd h0
      obtain ⟨ea, rfl⟩ := Later.mk_ex hxa
      have q25 := depOn hd 25 69 (by kernel_rfl) rfl
      simp [plaF] at q25
      have q26 := depOn hd 26 70 (by kernel_rfl) rfl
      simp [plaF] at q26
      clear hd h0
      go_simp
      refine (RS.out ea.w ea.ext).mono ?_
      rintro e w2 ⟨cs, rfl, hR, hx⟩
      go_simp
      first | exact ⟨_, rfl, hx, ⟨cs, rfl, hR⟩⟩ | exact ⟨hx, ⟨cs, rfl, hR⟩⟩ | exact ⟨cs, rfl, hR⟩ | exact ⟨_, rfl, ⟨cs, rfl, hR⟩⟩
    · intro A wa hxa hd h0
      obtain ⟨ea, rfl⟩ := Later.mk_ex hxa
      obtain ⟨g24, q24, hR24⟩ := depOn hd 24 68 (by kernel_rfl) rfl
      simp at q24
      obtain ⟨g27, q27, hR27⟩ := depOn hd 27 71 (by kernel_rfl) rfl
      simp at q27
      clear hd h0
      go_simp
      refine (SM.out ea.w _ _ hR24 hR27).mono ?_
      rintro e w2 ⟨rfl, hx⟩
      go_simp
      first | exact ⟨_, rfl, hx, rfl⟩ | exact ⟨hx, rfl⟩ | exact rfl | exact ⟨_, rfl, rfl⟩
    · intro A wa hxa hd h0
      obtain ⟨ea, rfl⟩ := Later.mk_ex hxa
      have q21 := depOn hd 21 65 (by kernel_rfl) rfl
      simp [plaF] at q21
      have q28 := depOn hd 28 72 (by kernel_rfl) rfl
      simp [plaF] at q28
      clear hd h0
      go_simp
      first | exact ⟨_, rfl, Ext.refl _, rfl⟩ | exact ⟨Ext.refl _, rfl⟩ | exact rfl | exact ⟨_, rfl, rfl⟩
    · intro A wa hxa hd h0
      obtain ⟨ea, rfl⟩ := Later.mk_ex hxa
      have q29 := depOn hd 29 73 (by kernel_rfl) rfl
      simp [plaF] at q29
      clear hd h0
      go_simp
      first | exact ⟨_, rfl, Ext.refl _, rfl⟩ | exact ⟨Ext.refl _, rfl⟩ | exact rfl | exact ⟨_, rfl, rfl⟩
  · intro A wa hk
    obtain ⟨hxa, hsz, hdf, hdn, hrs⟩ := hk
    obtain ⟨ea, rfl⟩ := Later.mk_ex hxa
    have k4 : A.tmps.getD 4 undef = .bool true := hdn 30 4 rfl rfl
    clear hdn hrs
    rw [act_lit hsz hdf]
    simp [List.range, List.range.loop] at k4
    simp [List.range, List.range.loop, k4]
    clear k4 hsz hdf
    generalize A.tmps[0]?.getD undef = A0 at *
    generalize A.tmps[1]?.getD undef = A1 at *
    generalize A.tmps[2]?.getD undef = A2 at *
    generalize A.tmps[3]?.getD undef = A3 at *
    generalize A.tmps[5]?.getD undef = A5 at *
    generalize A.tmps[6]?.getD undef = A6 at *
    generalize A.tmps[7]?.getD undef = A7 at *
    generalize A.tmps[8]?.getD undef = A8 at *
    generalize A.tmps[9]?.getD undef = A9 at *
    generalize A.tmps[10]?.getD undef = A10 at *
    generalize A.tmps[11]?.getD undef = A11 at *
    generalize A.tmps[12]?.getD undef = A12 at *
    generalize A.tmps[13]?.getD undef = A13 at *
    generalize A.tmps[14]?.getD undef = A14 at *
    generalize A.tmps[15]?.getD undef = A15 at *
    generalize A.tmps[16]?.getD undef = A16 at *
    generalize A.tmps[17]?.getD undef = A17 at *
    generalize A.tmps[18]?.getD undef = A18 at *
    generalize A.tmps[19]?.getD undef = A19 at *
    generalize A.tmps[20]?.getD undef = A20 at *
    generalize A.tmps[21]?.getD undef = A21 at *
    generalize A.tmps[22]?.getD undef = A22 at *
    generalize A.tmps[23]?.getD undef = A23 at *
    generalize A.tmps[24]?.getD undef = A24 at *
    generalize A.tmps[25]?.getD undef = A25 at *
    generalize A.tmps[26]?.getD undef = A26 at *
    generalize A.tmps[27]?.getD undef = A27 at *
    generalize A.tmps[28]?.getD undef = A28 at *
    generalize A.tmps[29]?.getD undef = A29 at *
    generalize A.tmps[30]?.getD undef = A30 at *
    generalize A.tmps[31]?.getD undef = A31 at *
    generalize A.tmps[32]?.getD undef = A32 at *
    generalize A.tmps[33]?.getD undef = A33 at *
    generalize A.tmps[34]?.getD undef = A34 at *
    generalize A.tmps[35]?.getD undef = A35 at *
    generalize A.tmps[36]?.getD undef = A36 at *
    generalize A.tmps[37]?.getD undef = A37 at *
    generalize A.tmps[38]?.getD undef = A38 at *
    generalize A.tmps[39]?.getD undef = A39 at *
    generalize A.tmps[40]?.getD undef = A40 at *
    generalize A.tmps[41]?.getD undef = A41 at *
    generalize A.tmps[42]?.getD undef = A42 at *
    generalize A.tmps[43]?.getD undef = A43 at *
    generalize A.tmps[44]?.getD undef = A44 at *
    generalize A.tmps[45]?.getD undef = A45 at *
    generalize A.tmps[46]?.getD undef = A46 at *
    generalize A.tmps[47]?.getD undef = A47 at *
    generalize A.tmps[48]?.getD undef = A48 at *
    generalize A.tmps[49]?.getD undef = A49 at *
    generalize A.tmps[50]?.getD undef = A50 at *
    generalize A.tmps[51]?.getD undef = A51 at *
    generalize A.tmps[52]?.getD undef = A52 at *
    generalize A.tmps[53]?.getD undef = A53 at *
    generalize A.tmps[54]?.getD undef = A54 at *
    generalize A.tmps[55]?.getD undef = A55 at *
    generalize A.tmps[56]?.getD undef = A56 at *
    generalize A.tmps[57]?.getD undef = A57 at *
    generalize A.tmps[58]?.getD undef = A58 at *
    generalize A.tmps[59]?.getD undef = A59 at *
    generalize A.tmps[60]?.getD undef = A60 at *
    generalize A.tmps[61]?.getD undef = A61 at *
    generalize A.tmps[62]?.getD undef = A62 at *
    generalize A.tmps[63]?.getD undef = A63 at *
    generalize A.tmps[64]?.getD undef = A64 at *
    generalize A.tmps[65]?.getD undef = A65 at *
    generalize A.tmps[66]?.getD undef = A66 at *
    generalize A.tmps[67]?.getD undef = A67 at *
    generalize A.tmps[68]?.getD undef = A68 at *
    generalize A.tmps[69]?.getD undef = A69 at *
    generalize A.tmps[70]?.getD undef = A70 at *
    generalize A.tmps[71]?.getD undef = A71 at *
    generalize A.tmps[72]?.getD undef = A72 at *
    generalize A.tmps[73]?.getD undef = A73 at *
    go_wp2_with fail
    go_ret
    exact ⟨rfl, Q01.out.trans (Later.ext _)⟩

end Go.Proofs.YtonbgnaopkopoaaDoor
