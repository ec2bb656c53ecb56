/-
  THE LAW KonstSubst: WHAT IT COMPUTES.
-/
import Derived.Test.YtonbgnaopkopoaaDoorLawKPlacesPk
namespace Go.Proofs.YtonbgnaopkopoaaDoor
open Go Go.RowKit
set_option linter.all false
set_option linter.unusedVariables false
set_option linter.unusedSimpArgs false
set_option linter.unusedVariables false
set_option linter.unusedSimpArgs false
attribute [local go_sem] run_store_one

/-- Are all constants' values such? -/
def rightE (env : List (ByteArray × Int)) : Prop := ∀ k (h : k < env.length), insideK env[k].2
set_option maxRecDepth 20000 in
set_option maxHeartbeats 1000000 in
theorem right_any (B : Nat) (env : List (ByteArray × Int)) (w : World) (ve : Value) (hS : Sl RNm w B 2 env ve) (hB : B ≤ w.heap.size) (hln : env.length ≤ 1000000000) :
    Calls Tryd.prog 32 #[ve] w fun e w' => e = .returned (.bool (yes (rightE env))) ∧ w' = w := by
  obtain ⟨a, cap, rfl, hcap, hrow⟩ := hS
  clear hcap
  obtain ⟨res, hres⟩ : ∃ res, res = yes (rightE env) := ⟨_, rfl⟩
  rw [← hres]
  have R := hide hres
  clear hres
  go_enter Tryd.func32, Tryd.ntmps32
  go_wp2_with fail
  go_loopw [3] (fun i wr => ∃ k : Nat, k ≤ env.length ∧ i = .int .i64 k ∧ (∀ j (h : j < env.length), j < k → insideK env[j].2) ∧ wr = w) (fun i _ => env.length - (intOf i).toNat)
  case atStart => exact ⟨0, Nat.zero_le _, rfl, fun j h hj => absurd hj (by omega), rfl⟩
  case round =>
    obtain ⟨k, hk, rfl, hall, rfl⟩ := hrel
    have HA := hide hall
    clear hall
    by_cases hlt : k < env.length
    · obtain ⟨b, o, v0, v1, rfl, hbB, hR, hC, o0, o1⟩ := hrow.open2 hlt
      simp only [RNm, List.cons.injEq, and_true] at hR
      obtain ⟨rfl, rfl⟩ := hR
      obtain ⟨d0, d1⟩ := hC.get2
      have hlt' : (k : Int) < (env.length : Nat) := by omega
      clear hC hrow
      by_cases h0 : env[k].2 < 0
      · have hr : res = false := R.out.trans (yes_no.2 (fun h => by have := (h k hlt).1; omega))
        subst hr
        have e0 : decide (env[k].2 < 0) = true := decide_eq_true h0
        clear h0 R HA
        generalize env[k].2 = z at *
        go_wp2_with fail
        go_ret
        exact ⟨rfl, rfl⟩
      · by_cases h1 : 2147483647 < env[k].2
        · have hr : res = false := R.out.trans (yes_no.2 (fun h => by have := (h k hlt).2; omega))
          subst hr
          have e0 : decide (env[k].2 < 0) = false := decide_eq_false h0
          have e1 : decide (2147483647 < env[k].2) = true := decide_eq_true h1
          clear h0 h1 R HA
          generalize env[k].2 = z at *
          go_wp2_with fail
          go_ret
          exact ⟨rfl, rfl⟩
        · have e0 : decide (env[k].2 < 0) = false := decide_eq_false h0
          have e1 : decide (2147483647 < env[k].2) = false := decide_eq_false h1
          have IN := hide (show insideK env[k].2 from ⟨by omega, by omega⟩)
          have NX := hide (fun j (h : j < env.length) (hj : j < k + 1) => (show insideK env[j].2 from if e : j = k then by subst e; exact IN.out else HA.out j h (by omega)))
          clear h0 h1 HA IN
          generalize env[k].2 = z at *
          go_wp2_with fail
          go_roundw
          case rel => exact ⟨k + 1, by omega, by go_num, NX.out, trivial⟩
          case measure => simp [intOf]; omega
    · have hkl : k = env.length := by omega
      subst hkl
      have hr : res = true := R.out.trans (yes_iff.2 (fun j h => HA.out j h h))
      subst hr
      clear R HA
      go_wp2_with fail
      go_ret
      exact ⟨rfl, rfl⟩
theorem rightE_look {env : List (ByteArray × Int)} (h : rightE env) : ∀ s z, lookE env s = some z → insideK z := by
  intro s z hz
  obtain ⟨p, hp, -, rfl⟩ := lookE_mem hz
  obtain ⟨k, hk, rfl⟩ := List.getElem_of_mem hp
  exact h k hk
theorem lookE_none : lookE [] = fun _ => none := funext fun s => rfl
theorem eval_after {env : List (ByteArray × Int)} {x : X} (h : rightE env) (hc : checkX x = 0) : evalW [] (substX (lookE env) x) = evalW env x := by
  unfold evalW
  rw [if_pos (check_subst hc), if_pos hc, lookE_none, eval_subst (rightE_look h)]
/-- What is known of the values of the last region. -/
def subF (cx cy : List Value) (ve : Value) (x y : X) (r1 r2 : Int) (i : Nat) (v : Value) (w : World) : Prop := match i with
  | 0 | 1 | 4 | 5 | 6 | 9 | 10 | 11 | 14 | 15 | 16 | 21 | 22 | 23 | 27 | 28 | 29 => v = .bool true
  | 2 | 3 => v = .int .i64 r1
  | 7 | 8 => v = .int .i64 r2
  | 12 | 17 | 20 => v = .agg cy.toArray
  | 13 => v = .int .i64 0
  | 18 => v = ve
  | 24 | 26 => v = .agg cx.toArray
  | 19 => ∃ cs, v = .agg cs.toArray ∧ RX w w.heap.size y cs
  | 25 => ∃ cs, v = .agg cs.toArray ∧ RX w w.heap.size x cs
  | _ => True
theorem subF_ext {cx cy : List Value} {ve : Value} {x y : X} {r1 r2 : Int} {i : Nat} {v : Value} {w w' : World} (h : subF cx cy ve x y r1 r2 i v w) (hx : Ext w w') : subF cx cy ve x y r1 r2 i v w' := by
  unfold subF at *
  split at h
  all_goals first | exact h | (obtain ⟨q, h1, h2⟩ := h; exact ⟨q, h1, (h2.ext hx (Nat.le_refl _)).more hx.size⟩)

set_option maxRecDepth 20000 in
set_option maxHeartbeats 4000000 in
theorem lawKSubst_any (B : Nat) (env : List (ByteArray × Int)) (x : X) (w : World) (ve : Value) (cs : List Value) (hT : Tabs w) (hR : RX w B x cs) (hS : Sl RNm w B 2 env ve) (hB : B ≤ w.heap.size) (hsz : sizeX x ≤ 100000000) (hv : VX x) (hln : env.length ≤ 1000000000) :
    Calls Tryd.prog 10 #[.agg cs.toArray, ve] w fun e w' => e = .returned (.bool true) ∧ Ext w w' := by
  have HR := hide hR
  have HT := hide hT
  have HS := hide hS
  obtain ⟨x5, rfl, hS5⟩ := RX_iff.1 hR
  have o5 := hS5.oneCell
  have oe := hS.oneCell
  have hsz9 : sizeX x ≤ 1000000000 := by omega
  obtain ⟨W1, e1, hV1, hx1, hs1, c0, c1, c2, c3, c4, c5⟩ := boxL6 w (.int .i64 x.op) (.string x.name) (.int .i64 x.n) (.int .i64 x.w) (.int .u64 x.v) x5 25
  have hB1 : B ≤ W1.heap.size := Nat.le_trans hB hx1.size
  have GL := hide (show ECalls Tryd.prog 12 #[] W1 (.bool true) from fun w' hw => live6_any w' (HT.out.ext (hx1.trans hw)))
  have GF := hide (show ECalls Tryd.prog 13 #[.agg #[.int .i64 x.op, .string x.name, .int .i64 x.n, .int .i64 x.w, .int .u64 x.v, x5], ve] W1 (.bool (yes (fewE x env.length))) from fun w' hw => fewE_any B env x w' ve _ (HR.out.ext (hx1.trans hw) hB) (HS.out.extN (hx1.trans hw) hB) (Nat.le_trans hB1 hw.size) hsz9 hln)
  have GR := hide (show ECalls Tryd.prog 32 #[ve] W1 (.bool (yes (rightE env))) from fun w' hw => (right_any B env w' ve (HS.out.extN (hx1.trans hw) hB) (Nat.le_trans hB1 hw.size) hln).mono fun _ _ ⟨h1, h2⟩ => ⟨h1, by subst h2; exact Ext.refl _⟩)
  have GC := hide (show ECalls Tryd.prog 31 #[.agg #[.int .i64 x.op, .string x.name, .int .i64 x.n, .int .i64 x.w, .int .u64 x.v, x5]] W1 (.int .i64 (checkX x)) from fun w' hw => CheckX_any B x w' _ (HT.out.ext (hx1.trans hw)) (HR.out.ext (hx1.trans hw) hB) (Nat.le_trans hB1 hw.size) hsz9 hv)
  have KE := hide (show ECalls Tryd.prog 14 #[.agg #[.int .i64 x.op, .string x.name, .int .i64 x.n, .int .i64 x.w, .int .u64 x.v, x5], ve] W1 (pairV (evalW env x)) from fun w' hw => kEval_any B env x w' ve _ (HT.out.ext (hx1.trans hw)) (HR.out.ext (hx1.trans hw) hB) (HS.out.extN (hx1.trans hw) hB) (Nat.le_trans hB1 hw.size) hsz9 hv hln)
  have hys : sizeX (substX (lookE env) x) ≤ 100000000 := by have := size_subst (env := lookE env) x; omega
  have hyv := vx_subst (env := lookE env) x hv
  have KS := hide (xcalls_k hln hsz (HR.out.ext hx1 hB) hB1 (HS.out.extN hx1 hB))
  have KN := hide (xcalls_k (env := []) (ve := .slice none 0 0) (by decide) hsz (HR.out.ext hx1 hB) hB1 Sl.nil)
  rw [lookE_none, subst_none] at KN
  have AF := fun h h' => eval_after (env := env) (x := x) h h'
  have CS := fun h => check_subst (env := lookE env) (x := x) h
  have TW := subst_twice (env := lookE env) x
  have Q01 := hide hx1
  have RXX := hide (show ∀ w', Ext W1 w' → RX w' w'.heap.size x [.int .i64 x.op, .string x.name, .int .i64 x.n, .int .i64 x.w, .int .u64 x.v, x5] from fun w' hw => (HR.out.ext (hx1.trans hw) hB).more (Nat.le_trans hB1 hw.size))
  have HTT := hide (show ∀ w', Ext W1 w' → Tabs w' from fun w' hw => HT.out.ext (hx1.trans hw))
  have HSS := hide (show ∀ w', Ext W1 w' → Sl RNm w' w'.heap.size 2 env ve from fun w' hw => (HS.out.extN (hx1.trans hw) hB).keep (fun p hp => rfl) (Nat.le_trans hB1 hw.size) (fun _ _ _ h => h))
  clear hT hR hS hS5 hx1 HR HT HS hB1 hs1
  cases bf : yes (fewE x env.length) with
  | false =>
    rw [bf] at GF
    clear AF CS TW KS KN RXX HTT HSS hv hln hys hyv hsz hsz9
    go_enter Tryd.func10, Tryd.ntmps10
    go_wp2_with (first
      | (go_at_call 12; refine (GL.out.at_ _).mono ?_; rintro _ _ ⟨rfl, e, rfl⟩)
      | (go_at_call 13; refine (GF.out.at_ _).mono ?_; rintro _ _ ⟨rfl, e, rfl⟩)
      | (go_at_call 32; refine (GR.out.at_ _).mono ?_; rintro _ _ ⟨rfl, e, rfl⟩)
      | (go_at_call 31; refine (GC.out.at_ _).mono ?_; rintro _ _ ⟨rfl, e, rfl⟩))
    go_ret
    exact ⟨rfl, Q01.out.trans (Later.ext _)⟩
  | true =>
  rw [bf] at GF
  cases br : yes (rightE env) with
  | false =>
    rw [br] at GR
    clear AF CS TW KS KN RXX HTT HSS hv hln hys hyv bf hsz hsz9
    go_enter Tryd.func10, Tryd.ntmps10
    go_wp2_with (first
      | (go_at_call 12; refine (GL.out.at_ _).mono ?_; rintro _ _ ⟨rfl, e, rfl⟩)
      | (go_at_call 13; refine (GF.out.at_ _).mono ?_; rintro _ _ ⟨rfl, e, rfl⟩)
      | (go_at_call 32; refine (GR.out.at_ _).mono ?_; rintro _ _ ⟨rfl, e, rfl⟩)
      | (go_at_call 31; refine (GC.out.at_ _).mono ?_; rintro _ _ ⟨rfl, e, rfl⟩))
    go_ret
    exact ⟨rfl, Q01.out.trans (Later.ext _)⟩
  | true =>
  rw [br] at GR
  by_cases hc : checkX x = 0
  rotate_left
  · have g0 : ((checkX x : Int) == 0) = false := by simpa using hc
    have g1 : ((checkX x : Int) != 0) = true := by simpa using hc
    clear AF CS TW KS KN RXX HTT HSS hv hln hys hyv bf br hc hsz hsz9
    generalize checkX x = tx at *
    go_enter Tryd.func10, Tryd.ntmps10
    go_wp2_with (first
      | (go_at_call 12; refine (GL.out.at_ _).mono ?_; rintro _ _ ⟨rfl, e, rfl⟩)
      | (go_at_call 13; refine (GF.out.at_ _).mono ?_; rintro _ _ ⟨rfl, e, rfl⟩)
      | (go_at_call 32; refine (GR.out.at_ _).mono ?_; rintro _ _ ⟨rfl, e, rfl⟩)
      | (go_at_call 31; refine (GC.out.at_ _).mono ?_; rintro _ _ ⟨rfl, e, rfl⟩))
    go_ret
    exact ⟨rfl, Q01.out.trans (Later.ext _)⟩
  have af := AF (yes_iff.1 br) hc
  have cs := CS hc
  rw [hc] at GC
  obtain ⟨y, hy⟩ : ∃ y, y = substX (lookE env) x := ⟨_, rfl⟩
  rw [← hy] at KS af cs TW hys hyv
  have hsy : sizeX y ≤ 1000000000 := by omega
  generalize evalW env x = r at *
  obtain ⟨r1, r2⟩ := r
  clear AF CS bf br hc hy
  unfold pairV at KE
  simp only at KE
  go_enter Tryd.func10, Tryd.ntmps10
  go_wp2_with (first
    | (go_at_call 12; refine (GL.out.at_ _).mono ?_; rintro _ _ ⟨rfl, e, rfl⟩)
    | (go_at_call 13; refine (GF.out.at_ _).mono ?_; rintro _ _ ⟨rfl, e, rfl⟩)
    | (go_at_call 32; refine (GR.out.at_ _).mono ?_; rintro _ _ ⟨rfl, e, rfl⟩)
    | (go_at_call 31; refine (GC.out.at_ _).mono ?_; rintro _ _ ⟨rfl, e, rfl⟩))
  go_at_call 23
  refine (KS.out _ (Later.ext _)).mono ?_
  rintro _ wz ⟨cy, rfl, hq, xq⟩
  obtain ⟨e, rfl⟩ := Later.mk_ex ((Later.ext _).trans xq)
  have hq' := hq
  obtain ⟨y5, rfl, hy5⟩ := RX_iff.1 hq'
  have oy := hy5.oneCell
  obtain ⟨Wb, hWb, hxb, hbb⟩ := box6 e.w (.int .i64 0) (.string ⟨#[]⟩) (.int .i64 0) (.int .i64 0) (.int .u64 0) (.slice none 0 0) 25
  obtain ⟨m0, m1, m2, m3, m4, m5⟩ := hbb.get6
  obtain ⟨n0, n1, n2, n3, n4, n5⟩ := hbb.free6
  obtain ⟨Wc, hWc⟩ : ∃ Wc, Wc = ((((((Wb.setCell ⟨e.w.heap.size, 0, none⟩ (.int .i64 y.op)).setCell ⟨e.w.heap.size, 1, none⟩ (.string y.name)).setCell ⟨e.w.heap.size, 2, none⟩ (.int .i64 y.n)).setCell ⟨e.w.heap.size, 3, none⟩ (.int .i64 y.w)).setCell ⟨e.w.heap.size, 4, none⟩ (.int .u64 y.v)).setCell ⟨e.w.heap.size, 5, none⟩ y5) := ⟨_, rfl⟩
  have hbc := hbb.store6 (.int .i64 y.op) (.string y.name) (.int .i64 y.n) (.int .i64 y.w) (.int .u64 y.v) y5
  rw [← hWc] at hbc
  have hbx : Ext e.w Wc := by rw [hWc]; exact (((((hxb.setCell (Nat.le_refl _) _).setCell (Nat.le_refl _) _).setCell (Nat.le_refl _) _).setCell (Nat.le_refl _) _).setCell (Nat.le_refl _) _).setCell (Nat.le_refl _) _
  obtain ⟨ec, hec⟩ := Later.mk_ex (Ext.refl Wc)
  have hVb := hWb.symm
  have hVc := hWc.symm.trans hec
  have q1c := (Later.ext e).trans hbx
  have Q0c := hide (Q01.out.trans q1c)
  obtain ⟨u0, u1, u2, u3, u4, u5⟩ := hbc.later6
  have HH := hide (show ∀ w', Ext Wc w' → RX w' w'.heap.size y [.int .i64 y.op, .string y.name, .int .i64 y.n, .int .i64 y.w, .int .u64 y.v, y5] from fun w' hw => (hq.ext (hbx.trans hw) (Nat.le_refl _)).more (hbx.trans hw).size)
  replace c0 := cellL c0 q1c
  replace c1 := cellL c1 q1c
  replace c2 := cellL c2 q1c
  replace c3 := cellL c3 q1c
  replace c4 := cellL c4 q1c
  replace c5 := cellL c5 q1c
  replace KE := hide (KE.out.later q1c)
  have ES := hide (show ECalls Tryd.prog 14 #[.agg #[.int .i64 y.op, .string y.name, .int .i64 y.n, .int .i64 y.w, .int .u64 y.v, y5], .slice none 0 0] Wc (.tuple #[.int .i64 r1, .int .i64 r2]) from fun w' hw => by
    have h := kEval_any w'.heap.size [] y w' (.slice none 0 0) [.int .i64 y.op, .string y.name, .int .i64 y.n, .int .i64 y.w, .int .u64 y.v, y5] (HTT.out w' (q1c.trans hw)) (HH.out w' hw) Sl.nil (Nat.le_refl _) hsy hyv (by decide)
    rw [af] at h
    exact h)
  have C2 := hide (show ECalls Tryd.prog 31 #[.agg #[.int .i64 y.op, .string y.name, .int .i64 y.n, .int .i64 y.w, .int .u64 y.v, y5]] Wc (.int .i64 0) from fun w' hw => by
    have h := CheckX_any w'.heap.size y w' [.int .i64 y.op, .string y.name, .int .i64 y.n, .int .i64 y.w, .int .u64 y.v, y5] (HTT.out w' (q1c.trans hw)) (HH.out w' hw) (Nat.le_refl _) hsy hyv
    rw [show told (sizeX y) (deepX y) (yes (MayX y)) = checkX y from rfl, cs] at h
    exact h)
  have KT := hide (show XCalls Tryd.prog 23 #[.agg #[.int .i64 y.op, .string y.name, .int .i64 y.n, .int .i64 y.w, .int .u64 y.v, y5], ve] Wc y from fun w' hw => by
    have h := xcalls_k (B := w'.heap.size) hln hys (HH.out w' hw) (Nat.le_refl _) (HSS.out w' (q1c.trans hw)) w' (Ext.refl _)
    rw [TW] at h
    exact h)
  replace KN := hide (KN.out.later q1c)
  have SY := hide (show ∀ (w' : World) (ca : List Value), Ext Wc w' → RX w' w'.heap.size y ca → Calls Tryd.prog 33 #[.agg ca.toArray, .agg #[.int .i64 y.op, .string y.name, .int .i64 y.n, .int .i64 y.w, .int .u64 y.v, y5]] w' fun e w'' => e = .returned (.bool true) ∧ Ext w' w'' from
    fun w' ca hw ha => same_self y ▸ astSameX_any w'.heap.size y y w' ca [.int .i64 y.op, .string y.name, .int .i64 y.n, .int .i64 y.w, .int .u64 y.v, y5] ha (HH.out w' hw) (Nat.le_refl _) hsy)
  have SX := hide (show ∀ (w' : World) (ca : List Value), Ext Wc w' → RX w' w'.heap.size x ca → Calls Tryd.prog 33 #[.agg ca.toArray, .agg #[.int .i64 x.op, .string x.name, .int .i64 x.n, .int .i64 x.w, .int .u64 x.v, x5]] w' fun e w'' => e = .returned (.bool true) ∧ Ext w' w'' from
    fun w' ca hw ha => same_self x ▸ astSameX_any w'.heap.size x x w' ca [.int .i64 x.op, .string x.name, .int .i64 x.n, .int .i64 x.w, .int .u64 x.v, x5] ha (RXX.out w' (q1c.trans hw)) (Nat.le_refl _) hsz9)
  clear hWb hxb hbb hWc hbc hbx hec q1c hq hq' hy5 xq GL GF GR GC KS HH HTT HSS RXX hv hln hys hyv hsy af cs TW Q01 hsz hsz9
  go_wp2_with (first
    | (go_at_call 14; with_reducible refine (KE.out.at_ _).mono ?_; rintro _ _ ⟨rfl, e, rfl⟩)
    | (go_at_call 14; with_reducible refine (ES.out.at_ _).mono ?_; rintro _ _ ⟨rfl, e, rfl⟩))
  refine wp_region_facts_g (W := Wc) (subF [.int .i64 x.op, .string x.name, .int .i64 x.n, .int .i64 x.w, .int .u64 x.v, x5] [.int .i64 y.op, .string y.name, .int .i64 y.n, .int .i64 y.w, .int .u64 y.v, y5] ve x y r1 r2) (by kernel_rfl) (by kernel_rfl) ?_ (Later.ext _) (fun i v w w' h hx => subF_ext h hx) ?_ ?_
  · simp [GuardsMet, subF]
  · refine ⟨?_, ?_, ?_, ?_, ?_, ?_, ?_, ?_, ?_, ?_, ?_, ?_, ?_, ?_, ?_, ?_, ?_, ?_, ?_, ?_, ?_, ?_, ?_, ?_, ?_, ?_, ?_, ?_, ?_, ?_, trivial⟩
    · intro A wa hxa hd h0
      obtain ⟨ea, rfl⟩ := Later.mk_ex hxa
      have r5 := rest_at h0 5 (by kernel_rfl)
      simp at r5
      clear hd h0
      go_simp
      first | exact ⟨_, rfl, Ext.refl _, rfl⟩ | exact ⟨Ext.refl _, rfl⟩ | exact rfl | exact ⟨_, rfl, rfl⟩
    · intro A wa hxa hd h0
      obtain ⟨ea, rfl⟩ := Later.mk_ex hxa
      have q0 := depOn hd 0 41 (by kernel_rfl) rfl
      simp [subF] at q0
      clear hd h0
      go_simp
      first | exact ⟨_, rfl, Ext.refl _, rfl⟩ | exact ⟨Ext.refl _, rfl⟩ | exact rfl | exact ⟨_, rfl, rfl⟩
    · intro A wa hxa hd h0
      obtain ⟨ea, rfl⟩ := Later.mk_ex hxa
      have r7 := rest_at h0 7 (by kernel_rfl)
      simp at r7
      clear hd h0
      go_simp
      first | exact ⟨_, rfl, Ext.refl _, rfl⟩ | exact ⟨Ext.refl _, rfl⟩ | exact rfl | exact ⟨_, rfl, rfl⟩
    · intro A wa hxa hd h0
      obtain ⟨ea, rfl⟩ := Later.mk_ex hxa
      have r9 := rest_at h0 9 (by kernel_rfl)
      simp at r9
      clear hd h0
      go_simp
      first | exact ⟨_, rfl, Ext.refl _, rfl⟩ | exact ⟨Ext.refl _, rfl⟩ | exact rfl | exact ⟨_, rfl, rfl⟩
    · intro A wa hxa hd h0
      obtain ⟨ea, rfl⟩ := Later.mk_ex hxa
      have q2 := depOn hd 2 43 (by kernel_rfl) rfl
      simp [subF] at q2
      have q3 := depOn hd 3 44 (by kernel_rfl) rfl
      simp [subF] at q3
      clear hd h0
      go_simp
      first | exact ⟨_, rfl, Ext.refl _, rfl⟩ | exact ⟨Ext.refl _, rfl⟩ | exact rfl | exact ⟨_, rfl, rfl⟩
    · intro A wa hxa hd h0
      obtain ⟨ea, rfl⟩ := Later.mk_ex hxa
      have q1 := depOn hd 1 42 (by kernel_rfl) rfl
      simp [subF] at q1
      have q4 := depOn hd 4 45 (by kernel_rfl) rfl
      simp [subF] at q4
      clear hd h0
      go_simp
      first | exact ⟨_, rfl, Ext.refl _, rfl⟩ | exact ⟨Ext.refl _, rfl⟩ | exact rfl | exact ⟨_, rfl, rfl⟩
    · intro A wa hxa hd h0
      obtain ⟨ea, rfl⟩ := Later.mk_ex hxa
      have q5 := depOn hd 5 46 (by kernel_rfl) rfl
      simp [subF] at q5
      clear hd h0
      go_simp
      first | exact ⟨_, rfl, Ext.refl _, rfl⟩ | exact ⟨Ext.refl _, rfl⟩ | exact rfl | exact ⟨_, rfl, rfl⟩
    · intro A wa hxa hd h0
      obtain ⟨ea, rfl⟩ := Later.mk_ex hxa
      have r8 := rest_at h0 8 (by kernel_rfl)
      simp at r8
      clear hd h0
      go_simp
      first | exact ⟨_, rfl, Ext.refl _, rfl⟩ | exact ⟨Ext.refl _, rfl⟩ | exact rfl | exact ⟨_, rfl, rfl⟩
    · intro A wa hxa hd h0
      obtain ⟨ea, rfl⟩ := Later.mk_ex hxa
      have r10 := rest_at h0 10 (by kernel_rfl)
      simp at r10
      clear hd h0
      go_simp
      first | exact ⟨_, rfl, Ext.refl _, rfl⟩ | exact ⟨Ext.refl _, rfl⟩ | exact rfl | exact ⟨_, rfl, rfl⟩
    · intro A wa hxa hd h0
      obtain ⟨ea, rfl⟩ := Later.mk_ex hxa
      have q7 := depOn hd 7 48 (by kernel_rfl) rfl
      simp [subF] at q7
      have q8 := depOn hd 8 49 (by kernel_rfl) rfl
      simp [subF] at q8
      clear hd h0
      go_simp
      first | exact ⟨_, rfl, Ext.refl _, rfl⟩ | exact ⟨Ext.refl _, rfl⟩ | exact rfl | exact ⟨_, rfl, rfl⟩
    · intro A wa hxa hd h0
      obtain ⟨ea, rfl⟩ := Later.mk_ex hxa
      have q6 := depOn hd 6 47 (by kernel_rfl) rfl
      simp [subF] at q6
      have q9 := depOn hd 9 50 (by kernel_rfl) rfl
      simp [subF] at q9
      clear hd h0
      go_simp
      first | exact ⟨_, rfl, Ext.refl _, rfl⟩ | exact ⟨Ext.refl _, rfl⟩ | exact rfl | exact ⟨_, rfl, rfl⟩
    · intro A wa hxa hd h0
      obtain ⟨ea, rfl⟩ := Later.mk_ex hxa
      have q10 := depOn hd 10 51 (by kernel_rfl) rfl
      simp [subF] at q10
      clear hd h0
      go_simp
      first | exact ⟨_, rfl, Ext.refl _, rfl⟩ | exact ⟨Ext.refl _, rfl⟩ | exact rfl | exact ⟨_, rfl, rfl⟩
    · intro A wa hxa hd h0
      obtain ⟨ea, rfl⟩ := Later.mk_ex hxa
      have r6 := rest_at h0 6 (by kernel_rfl)
      simp at r6
      clear hd h0
      go_simp
      first | exact ⟨_, rfl, Ext.refl _, rfl⟩ | exact ⟨Ext.refl _, rfl⟩ | exact rfl | exact ⟨_, rfl, rfl⟩
    · intro A wa hxa hd h0
      obtain ⟨ea, rfl⟩ := Later.mk_ex hxa
      have q12 := depOn hd 12 53 (by kernel_rfl) rfl
      simp [subF] at q12
      clear hd h0
      go_simp
      refine (C2.out ea.w ea.ext).mono ?_
      rintro e w2 ⟨rfl, hx⟩
      go_simp
      first | exact ⟨_, rfl, hx, rfl⟩ | exact ⟨hx, rfl⟩ | exact rfl | exact ⟨_, rfl, rfl⟩
    · intro A wa hxa hd h0
      obtain ⟨ea, rfl⟩ := Later.mk_ex hxa
      have q13 := depOn hd 13 54 (by kernel_rfl) rfl
      simp [subF] at q13
      clear hd h0
      go_simp
      first | exact ⟨_, rfl, Ext.refl _, rfl⟩ | exact ⟨Ext.refl _, rfl⟩ | exact rfl | exact ⟨_, rfl, rfl⟩
    · intro A wa hxa hd h0
      obtain ⟨ea, rfl⟩ := Later.mk_ex hxa
      have q11 := depOn hd 11 52 (by kernel_rfl) rfl
      simp [subF] at q11
      have q14 := depOn hd 14 55 (by kernel_rfl) rfl
      simp [subF] at q14
      clear hd h0
      go_simp
      first | exact ⟨_, rfl, Ext.refl _, rfl⟩ | exact ⟨Ext.refl _, rfl⟩ | exact rfl | exact ⟨_, rfl, rfl⟩
    · intro A wa hxa hd h0
      obtain ⟨ea, rfl⟩ := Later.mk_ex hxa
      have q15 := depOn hd 15 56 (by kernel_rfl) rfl
      simp [subF] at q15
      clear hd h0
      go_simp
      first | exact ⟨_, rfl, Ext.refl _, rfl⟩ | exact ⟨Ext.refl _, rfl⟩ | exact rfl | exact ⟨_, rfl, rfl⟩
    · intro A wa hxa hd h0
      obtain ⟨ea, rfl⟩ := Later.mk_ex hxa
      have r6 := rest_at h0 6 (by kernel_rfl)
      simp at r6
      clear hd h0
      go_simp
      first | exact ⟨_, rfl, Ext.refl _, rfl⟩ | exact ⟨Ext.refl _, rfl⟩ | exact rfl | exact ⟨_, rfl, rfl⟩
    · intro A wa hxa hd h0
      obtain ⟨ea, rfl⟩ := Later.mk_ex hxa
      have r1 := rest_at h0 1 (by kernel_rfl)
      simp at r1
      clear hd h0
      go_simp
      first | exact ⟨_, rfl, Ext.refl _, rfl⟩ | exact ⟨Ext.refl _, rfl⟩ | exact rfl | exact ⟨_, rfl, rfl⟩
    · intro A wa hxa hd h0
      obtain ⟨ea, rfl⟩ := Later.mk_ex hxa
      have q17 := depOn hd 17 58 (by kernel_rfl) rfl
      simp [subF] at q17
      have q18 := depOn hd 18 59 (by kernel_rfl) rfl
      simp [subF] at q18
      clear hd h0
      go_simp
      refine (KT.out ea.w ea.ext).mono ?_
      rintro e w2 ⟨cs, rfl, hR, hx⟩
      go_simp
      first | exact ⟨_, rfl, hx, ⟨cs, rfl, hR⟩⟩ | exact ⟨hx, ⟨cs, rfl, hR⟩⟩ | exact ⟨cs, rfl, hR⟩ | exact ⟨_, rfl, ⟨cs, rfl, hR⟩⟩
    · intro A wa hxa hd h0
      obtain ⟨ea, rfl⟩ := Later.mk_ex hxa
      have r6 := rest_at h0 6 (by kernel_rfl)
      simp at r6
      clear hd h0
      go_simp
      first | exact ⟨_, rfl, Ext.refl _, rfl⟩ | exact ⟨Ext.refl _, rfl⟩ | exact rfl | exact ⟨_, rfl, rfl⟩
    · intro A wa hxa hd h0
      obtain ⟨ea, rfl⟩ := Later.mk_ex hxa
      obtain ⟨g19, q19, hR19⟩ := depOn hd 19 60 (by kernel_rfl) rfl
      simp at q19
      have q20 := depOn hd 20 61 (by kernel_rfl) rfl
      simp [subF] at q20
      clear hd h0
      go_simp
      refine (SY.out ea.w _ ea.ext hR19).mono ?_
      rintro e w2 ⟨rfl, hx⟩
      go_simp
      first | exact ⟨_, rfl, hx, rfl⟩ | exact ⟨hx, rfl⟩ | exact rfl | exact ⟨_, rfl, rfl⟩
    · intro A wa hxa hd h0
      obtain ⟨ea, rfl⟩ := Later.mk_ex hxa
      have q16 := depOn hd 16 57 (by kernel_rfl) rfl
      simp [subF] at q16
      have q21 := depOn hd 21 62 (by kernel_rfl) rfl
      simp [subF] at q21
      clear hd h0
      go_simp
      first | exact ⟨_, rfl, Ext.refl _, rfl⟩ | exact ⟨Ext.refl _, rfl⟩ | exact rfl | exact ⟨_, rfl, rfl⟩
    · intro A wa hxa hd h0
      obtain ⟨ea, rfl⟩ := Later.mk_ex hxa
      have q22 := depOn hd 22 63 (by kernel_rfl) rfl
      simp [subF] at q22
      clear hd h0
      go_simp
      first | exact ⟨_, rfl, Ext.refl _, rfl⟩ | exact ⟨Ext.refl _, rfl⟩ | exact rfl | exact ⟨_, rfl, rfl⟩
    · intro A wa hxa hd h0
      obtain ⟨ea, rfl⟩ := Later.mk_ex hxa
      have r2 := rest_at h0 2 (by kernel_rfl)
      simp at r2
      clear hd h0
      go_simp
      first | exact ⟨_, rfl, Ext.refl _, rfl⟩ | exact ⟨Ext.refl _, rfl⟩ | exact rfl | exact ⟨_, rfl, rfl⟩
    · intro A wa hxa hd h0
      obtain ⟨ea, rfl⟩ := Later.mk_ex hxa
      have q24 := depOn hd 24 65 (by kernel_rfl) rfl
      simp [subF] at q24
      clear hd h0
      go_simp
      refine (KN.out ea.w ea.ext).mono ?_
      rintro e w2 ⟨cs, rfl, hR, hx⟩
      go_simp
      first | exact ⟨_, rfl, hx, ⟨cs, rfl, hR⟩⟩ | exact ⟨hx, ⟨cs, rfl, hR⟩⟩ | exact ⟨cs, rfl, hR⟩ | exact ⟨_, rfl, ⟨cs, rfl, hR⟩⟩
    · intro A wa hxa hd h0
      obtain ⟨ea, rfl⟩ := Later.mk_ex hxa
      have r2 := rest_at h0 2 (by kernel_rfl)
      simp at r2
      clear hd h0
      go_simp
      first | exact ⟨_, rfl, Ext.refl _, rfl⟩ | exact ⟨Ext.refl _, rfl⟩ | exact rfl | exact ⟨_, rfl, rfl⟩
    · intro A wa hxa hd h0
      obtain ⟨ea, rfl⟩ := Later.mk_ex hxa
      obtain ⟨g25, q25, hR25⟩ := depOn hd 25 66 (by kernel_rfl) rfl
      simp at q25
      have q26 := depOn hd 26 67 (by kernel_rfl) rfl
      simp [subF] at q26
      clear hd h0
      go_simp
      refine (SX.out ea.w _ ea.ext hR25).mono ?_
      rintro e w2 ⟨rfl, hx⟩
      go_simp
      first | exact ⟨_, rfl, hx, rfl⟩ | exact ⟨hx, rfl⟩ | exact rfl | exact ⟨_, rfl, rfl⟩
    · intro A wa hxa hd h0
      obtain ⟨ea, rfl⟩ := Later.mk_ex hxa
      have q23 := depOn hd 23 64 (by kernel_rfl) rfl
      simp [subF] at q23
      have q27 := depOn hd 27 68 (by kernel_rfl) rfl
      simp [subF] at q27
      clear hd h0
      go_simp
      first | exact ⟨_, rfl, Ext.refl _, rfl⟩ | exact ⟨Ext.refl _, rfl⟩ | exact rfl | exact ⟨_, rfl, rfl⟩
    · intro A wa hxa hd h0
      obtain ⟨ea, rfl⟩ := Later.mk_ex hxa
      have q28 := depOn hd 28 69 (by kernel_rfl) rfl
      simp [subF] at q28
      clear hd h0
      go_simp
      first | exact ⟨_, rfl, Ext.refl _, rfl⟩ | exact ⟨Ext.refl _, rfl⟩ | exact rfl | exact ⟨_, rfl, rfl⟩
  · intro A wa hk
    obtain ⟨hxa, hsz, hdf, hdn, hrs⟩ := hk
    obtain ⟨ea, rfl⟩ := Later.mk_ex hxa
    have k4 : A.tmps.getD 4 undef = .bool true := hdn 29 4 rfl rfl
    clear hdn hrs
    rw [act_lit hsz hdf]
    simp [List.range, List.range.loop] at k4
    simp [List.range, List.range.loop, k4]
    clear k4 hsz hdf
    generalize A.tmps[0]?.getD undef = A0 at *
    generalize A.tmps[1]?.getD undef = A1 at *
    generalize A.tmps[2]?.getD undef = A2 at *
    generalize A.tmps[3]?.getD undef = A3 at *
    generalize A.tmps[5]?.getD undef = A5 at *
    generalize A.tmps[6]?.getD undef = A6 at *
    generalize A.tmps[7]?.getD undef = A7 at *
    generalize A.tmps[8]?.getD undef = A8 at *
    generalize A.tmps[9]?.getD undef = A9 at *
    generalize A.tmps[10]?.getD undef = A10 at *
    generalize A.tmps[11]?.getD undef = A11 at *
    generalize A.tmps[12]?.getD undef = A12 at *
    generalize A.tmps[13]?.getD undef = A13 at *
    generalize A.tmps[14]?.getD undef = A14 at *
    generalize A.tmps[15]?.getD undef = A15 at *
    generalize A.tmps[16]?.getD undef = A16 at *
    generalize A.tmps[17]?.getD undef = A17 at *
    generalize A.tmps[18]?.getD undef = A18 at *
    generalize A.tmps[19]?.getD undef = A19 at *
    generalize A.tmps[20]?.getD undef = A20 at *
    generalize A.tmps[21]?.getD undef = A21 at *
    generalize A.tmps[22]?.getD undef = A22 at *
    generalize A.tmps[23]?.getD undef = A23 at *
    generalize A.tmps[24]?.getD undef = A24 at *
    generalize A.tmps[25]?.getD undef = A25 at *
    generalize A.tmps[26]?.getD undef = A26 at *
    generalize A.tmps[27]?.getD undef = A27 at *
    generalize A.tmps[28]?.getD undef = A28 at *
    generalize A.tmps[29]?.getD undef = A29 at *
    generalize A.tmps[30]?.getD undef = A30 at *
    generalize A.tmps[31]?.getD undef = A31 at *
    generalize A.tmps[32]?.getD undef = A32 at *
    generalize A.tmps[33]?.getD undef = A33 at *
    generalize A.tmps[34]?.getD undef = A34 at *
    generalize A.tmps[35]?.getD undef = A35 at *
    generalize A.tmps[36]?.getD undef = A36 at *
    generalize A.tmps[37]?.getD undef = A37 at *
    generalize A.tmps[38]?.getD undef = A38 at *
    generalize A.tmps[39]?.getD undef = A39 at *
    generalize A.tmps[40]?.getD undef = A40 at *
    generalize A.tmps[41]?.getD undef = A41 at *
    generalize A.tmps[42]?.getD undef = A42 at *
    generalize A.tmps[43]?.getD undef = A43 at *
    generalize A.tmps[44]?.getD undef = A44 at *
    generalize A.tmps[45]?.getD undef = A45 at *
    generalize A.tmps[46]?.getD undef = A46 at *
    generalize A.tmps[47]?.getD undef = A47 at *
    generalize A.tmps[48]?.getD undef = A48 at *
    generalize A.tmps[49]?.getD undef = A49 at *
    generalize A.tmps[50]?.getD undef = A50 at *
    generalize A.tmps[51]?.getD undef = A51 at *
    generalize A.tmps[52]?.getD undef = A52 at *
    generalize A.tmps[53]?.getD undef = A53 at *
    generalize A.tmps[54]?.getD undef = A54 at *
    generalize A.tmps[55]?.getD undef = A55 at *
    generalize A.tmps[56]?.getD undef = A56 at *
    generalize A.tmps[57]?.getD undef = A57 at *
    generalize A.tmps[58]?.getD undef = A58 at *
    generalize A.tmps[59]?.getD undef = A59 at *
    generalize A.tmps[60]?.getD undef = A60 at *
    generalize A.tmps[61]?.getD undef = A61 at *
    generalize A.tmps[62]?.getD undef = A62 at *
    generalize A.tmps[63]?.getD undef = A63 at *
    generalize A.tmps[64]?.getD undef = A64 at *
    generalize A.tmps[65]?.getD undef = A65 at *
    generalize A.tmps[66]?.getD undef = A66 at *
    generalize A.tmps[67]?.getD undef = A67 at *
    generalize A.tmps[68]?.getD undef = A68 at *
    generalize A.tmps[69]?.getD undef = A69 at *
    go_wp2_with fail
    go_ret
    exact ⟨rfl, Q0c.out.trans (Later.ext _)⟩

end Go.Proofs.YtonbgnaopkopoaaDoor
