/-
  PACKAGE konst: Lookup, Eval, Width, Number.
-/
import Derived.Test.YtonbgnaopkopoaaDoorKevalPk
import Derived.Test.YtonbgnaopkopoaaDoorLawPPk
import Derived.Test.YtonbgnaopkopoaaDoorCheckPk
namespace Go.Proofs.YtonbgnaopkopoaaDoor
open Go Go.RowKit
set_option linter.all false
set_option linter.unusedVariables false
set_option linter.unusedSimpArgs false
set_option linter.unusedVariables false
set_option linter.unusedSimpArgs false
attribute [local go_sem] run_store_one

/-- A constant's cells. -/
def RNm (p : ByteArray × Int) (cs : List Value) : Prop := cs = [.string p.1, .int .i64 p.2]
theorem Sl.extN {w w' : World} {B : Nat} {l : List (ByteArray × Int)} {v : Value} (h : Sl RNm w B 2 l v) (hx : Ext w w') (hB : B ≤ w.heap.size) : Sl RNm w' B 2 l v :=
  h.keep (fun p hp => hx.cell (by omega)) (Nat.le_refl _) (fun _ _ _ h => h)
theorem lookE_take {env : List (ByteArray × Int)} {k : Nat} (h : k < env.length) (s : ByteArray) : lookE (env.take (k + 1)) s = if env[k].1 = s then some env[k].2 else lookE (env.take k) s := by
  rw [List.take_succ_eq_append_getElem h, lookE_snoc]

set_option maxRecDepth 20000 in
set_option maxHeartbeats 1000000 in
theorem klookup_any (B : Nat) (env : List (ByteArray × Int)) (s : ByteArray) (w : World) (ve : Value) (hS : Sl RNm w B 2 env ve) (hB : B ≤ w.heap.size) (hln : env.length ≤ 1000000000) :
    Calls Tryd.prog 16 #[ve, .string s] w fun e w' => e = .returned (.tuple #[.int .i64 ((lookE env s).getD 0), .bool (lookE env s).isSome]) ∧ Ext w w' := by
  obtain ⟨a, cap, rfl, hcap, hrow⟩ := hS
  clear hcap
  go_enter Tryd.func16, Tryd.ntmps16
  go_wp2_with fail
  go_loopw [6, 7, 12] (fun v ok i wr => ∃ k : Nat, k ≤ env.length ∧ i = .int .i64 k ∧ v = .int .i64 ((lookE (env.take k) s).getD 0) ∧ ok = .bool (lookE (env.take k) s).isSome ∧ Ext w wr) (fun _ _ i _ => env.length - (intOf i).toNat)
  case atStart => exact ⟨0, Nat.zero_le _, rfl, rfl, rfl, Ext.refl _⟩
  case round =>
    obtain ⟨k, hk, rfl, rfl, rfl, hx⟩ := hrel
    by_cases hlt : k < env.length
    · obtain ⟨b, o, v0, v1, rfl, hbB, hR, hC, o0, o1⟩ := hrow.open2 hlt
      simp only [RNm, List.cons.injEq, and_true] at hR
      obtain ⟨rfl, rfl⟩ := hR
      obtain ⟨d0, d1⟩ := (hC.ext hx).get2
      have hst := hide (lookE_take hlt s)
      obtain ⟨W1, hW1, hx1, hb1⟩ := box2 wr (.string env[k].1) (.int .i64 env[k].2) 57
      have hV1 := hW1.symm
      obtain ⟨c0, c1⟩ := hb1.get2
      have HX := hide (hx.trans hx1)
      clear hC hrow hx hx1 hb1 hW1
      by_cases he : env[k].1 = s
      · have hst2 := hide (hst.out.trans (if_pos he))
        generalize env[k] = q at *
        obtain ⟨qn, qv⟩ := q
        simp only at he c0 c1 hV1 d0 d1
        subst he
        go_wp2_with fail
        go_roundw
        case rel => exact ⟨k + 1, by omega, by go_num, by rw [hst2.out]; rfl, by rw [hst2.out]; rfl, HX.out⟩
        case measure => simp [intOf]; omega
      · have hst2 := hide (hst.out.trans (if_neg he))
        generalize env[k] = q at *
        obtain ⟨qn, qv⟩ := q
        simp only at he c0 c1 hV1 d0 d1
        have hne := text_ne he
        clear he
        go_wp2_with fail
        go_roundw
        case rel => exact ⟨k + 1, by omega, by go_num, by rw [hst2.out], by rw [hst2.out], HX.out⟩
        case measure => simp [intOf]; omega
    · have hkl : k = env.length := by omega
      subst hkl
      rw [List.take_length]
      go_wp2_with fail
      go_ret2
      exact ⟨rfl, hx⟩

/-- With a value put at a name. -/
theorem EnvM.put {w : World} {m : Nat} {env : ByteArray → Option Int} (h : EnvM w m env) (s : ByteArray) (z : Int) :
    ∃ o, (Instr.mapUpdate 59 (.map (some m)) (.string s) (.int .i64 z)).run Tryd.prog w = .ok () (setO w m o) ∧ EnvM (setO w m o) m (fun t => if s = t then some z else env t) := by
  obtain ⟨L, h1, h2, h3⟩ := h
  obtain ⟨o, hr, hm⟩ := h1.update Tryd.underlying59 Tryd.underlying9 (k := .string s) trivial h2 (.int .i64 z)
  refine ⟨o, hr, _, hm, keys_put h2 trivial, fun t => ?_⟩
  rw [getV_put]
  show _ = Option.map (Value.int .i64) (if s = t then some z else env t)
  by_cases ht : s = t
  · rw [if_pos (congrArg Value.string ht), if_pos ht]; rfl
  · rw [if_neg (fun e => ht (Value.string.inj e)), if_neg ht, h3]
theorem EnvM.new (w : World) : EnvM (w.alloc (.map #[] 0)) w.heap.size (fun _ => none) := ⟨[], MV.new w, (fun p hp => nomatch hp), fun s => rfl⟩

/-- What Eval, Width and Number tell. -/
noncomputable def evalW (env : List (ByteArray × Int)) (x : X) : Int × Int := if checkX x = 0 then evalX (lookE env) x else (0, 1)
noncomputable def widthK (env : List (ByteArray × Int)) (x : X) : Int × Int := if (evalW env x).2 = 0 ∧ ((evalW env x).1 < 1 ∨ 64 < (evalW env x).1) then (0, 83) else evalW env x
noncomputable def numK (env : List (ByteArray × Int)) (x : X) : (Int × Int) × Int := if x.op = 1 ∧ checkX x = 0 then ((x.w, x.v), 0) else ((0, (evalW env x).1), (evalW env x).2)

set_option maxRecDepth 20000 in
set_option maxHeartbeats 1000000 in
theorem kEval_any (B : Nat) (env : List (ByteArray × Int)) (x : X) (w : World) (ve : Value) (cs : List Value) (hT : Tabs w) (hR : RX w B x cs) (hS : Sl RNm w B 2 env ve) (hB : B ≤ w.heap.size) (hsz : sizeX x ≤ 1000000000) (hv : VX x) (hln : env.length ≤ 1000000000) :
    Calls Tryd.prog 14 #[.agg cs.toArray, ve] w fun e w' => e = .returned (pairV (evalW env x)) ∧ Ext w w' := by
  have HR := hide hR
  have HT := hide hT
  obtain ⟨x5, rfl, hS5⟩ := RX_iff.1 hR
  have o5 := hS5.oneCell
  obtain ⟨a, cap, rfl, hcap, hrow⟩ := hS
  obtain ⟨W1, e1, hV1, hx1, hs1, c0, c1, c2, c3, c4, c5⟩ := boxL6 w (.int .i64 x.op) (.string x.name) (.int .i64 x.n) (.int .i64 x.w) (.int .u64 x.v) x5 25
  have hB1 : B ≤ W1.heap.size := Nat.le_trans hB hx1.size
  have KC := hide (show ECalls Tryd.prog 31 #[.agg #[.int .i64 x.op, .string x.name, .int .i64 x.n, .int .i64 x.w, .int .u64 x.v, x5]] W1 (.int .i64 (checkX x)) from fun w' hw => CheckX_any B x w' _ (HT.out.ext (hx1.trans hw)) (HR.out.ext (hx1.trans hw) hB) (Nat.le_trans hB1 hw.size) hsz hv)
  have Q01 := hide hx1
  have HROW := hide hrow
  clear hT hR hS5 hx1 hcap hrow hsz
  by_cases hc : checkX x = 0
  · rw [hc] at KC
    have hev : evalW env x = evalX (lookE env) x := if_pos hc
    have KE := hide (fun (m : Nat) (w' : World) (hw : Ext w w') (hE : EnvM w' m (lookE env)) => keval_any B m (lookE env) x ((checkX_zero.1 hc).2.2) hv w' _ (HR.out.ext hw hB) (Nat.le_trans hB hw.size) hE)
    rw [hev]
    clear hev hc hv
    obtain ⟨pr, hpr⟩ : ∃ pr, pr = evalX (lookE env) x := ⟨_, rfl⟩
    rw [← hpr] at KE ⊢
    clear hpr
    have hmm := @run_makeMap Tryd.prog
    go_enter Tryd.func14, Tryd.ntmps14
    go_wp2_with (go_at_call 31; refine (KC.out.at_ _).mono ?_; rintro _ _ ⟨rfl, e, rfl⟩)
    go_loopw [15] (fun i wr => ∃ k : Nat, k ≤ env.length ∧ i = .int .i64 k ∧ EnvM wr e.w.heap.size (lookE (env.take k)) ∧ Ext W1 wr) (fun i _ => env.length - (intOf i).toNat)
    case atStart => exact ⟨0, Nat.zero_le _, rfl, EnvM.new _, e.ext.alloc _⟩
    case round =>
      obtain ⟨k, hk, rfl, hE, hx⟩ := hrel
      by_cases hlt : k < env.length
      · obtain ⟨b, o, v0, v1, rfl, hbB, hRn, hC, o0, o1⟩ := HROW.out.open2 hlt
        simp only [RNm, List.cons.injEq, and_true] at hRn
        obtain ⟨rfl, rfl⟩ := hRn
        obtain ⟨d0, d1⟩ := (hC.ext (Q01.out.trans hx)).get2
        have hst := hide (fun s => lookE_take hlt s)
        obtain ⟨W2, hW2, hx2, hb2⟩ := box2 wr (.string env[k].1) (.int .i64 env[k].2) 57
        obtain ⟨f0, f1⟩ := hb2.get2
        obtain ⟨ob, hup, hE3⟩ := (hE.ext hx2).put env[k].1 env[k].2
        obtain ⟨W3, hW3⟩ : ∃ W3, W3 = setO W2 e.w.heap.size ob := ⟨_, rfl⟩
        rw [← hW3] at hup hE3
        have hx13 : Ext W1 W3 := by rw [hW3]; exact Below.trans (hx.trans hx2) (setO_below e.ext.size (hx.trans hx2).size)
        have hV2 := hW2.symm
        have FIN := hide (And.intro hE3 hx13)
        clear hC hx hx2 hb2 hW2 hE hE3 hx13 hW3
        generalize env[k] = q at *
        obtain ⟨qn, qv⟩ := q
        simp only at hst hup hV2 d0 d1 f0 f1 FIN
        go_wp2_with fail
        go_roundw
        case rel => exact ⟨k + 1, by omega, by go_num, by have := FIN.out.1; rwa [show (fun t => if qn = t then some qv else lookE (env.take k) t) = lookE (env.take (k + 1)) from (funext hst.out).symm] at this, FIN.out.2⟩
        case measure => simp [intOf]; omega
      · have hkl : k = env.length := by omega
        subst hkl
        rw [List.take_length] at hE
        have KE := hide (KE.out _ _ (Q01.out.trans hx) hE)
        have HX := hide hx
        obtain ⟨g0, g1, g2, g3, g4, g5⟩ := And.intro (c0 ⟨wr, hx⟩) (And.intro (c1 ⟨wr, hx⟩) (And.intro (c2 ⟨wr, hx⟩) (And.intro (c3 ⟨wr, hx⟩) (And.intro (c4 ⟨wr, hx⟩) (c5 ⟨wr, hx⟩)))))
        simp only at g0 g1 g2 g3 g4 g5
        clear hE hx
        unfold pairV at *
        go_wp2_with (go_at_call 37; refine KE.out.mono ?_; rintro _ w9 ⟨rfl, h9⟩; have H9 := hide h9; clear h9)
        go_ret2
        exact ⟨rfl, (Q01.out.trans HX.out).trans H9.out⟩
  · have hev : evalW env x = (0, 1) := if_neg hc
    rw [hev]
    generalize checkX x = tx at *
    have hc' : ((tx : Int) == 0) = false := by simpa using hc
    have hc2 : ((tx : Int) != 0) = true := by simpa using hc
    clear hc hev hv
    unfold pairV
    go_enter Tryd.func14, Tryd.ntmps14
    go_wp2_with (go_at_call 31; refine (KC.out.at_ _).mono ?_; rintro _ _ ⟨rfl, e, rfl⟩)
    go_ret2
    exact ⟨rfl, Q01.out.trans (Later.ext _)⟩

set_option maxRecDepth 20000 in
set_option maxHeartbeats 1000000 in
theorem kWidth_any (B : Nat) (env : List (ByteArray × Int)) (x : X) (w : World) (ve : Value) (cs : List Value) (hT : Tabs w) (hR : RX w B x cs) (hS : Sl RNm w B 2 env ve) (hB : B ≤ w.heap.size) (hsz : sizeX x ≤ 1000000000) (hv : VX x) (hln : env.length ≤ 1000000000) :
    Calls Tryd.prog 18 #[.agg cs.toArray, ve] w fun e w' => e = .returned (pairV (widthK env x)) ∧ Ext w w' := by
  have HR := hide hR
  have HT := hide hT
  have HS := hide hS
  obtain ⟨x5, rfl, hS5⟩ := RX_iff.1 hR
  have o5 := hS5.oneCell
  have oe := hS.oneCell
  obtain ⟨W1, e1, hV1, hx1, hs1, c0, c1, c2, c3, c4, c5⟩ := boxL6 w (.int .i64 x.op) (.string x.name) (.int .i64 x.n) (.int .i64 x.w) (.int .u64 x.v) x5 25
  have hB1 : B ≤ W1.heap.size := Nat.le_trans hB hx1.size
  have KE := hide (show ECalls Tryd.prog 14 #[.agg #[.int .i64 x.op, .string x.name, .int .i64 x.n, .int .i64 x.w, .int .u64 x.v, x5], ve] W1 (pairV (evalW env x)) from fun w' hw => kEval_any B env x w' ve _ (HT.out.ext (hx1.trans hw)) (HR.out.ext (hx1.trans hw) hB) (HS.out.extN (hx1.trans hw) hB) (Nat.le_trans hB1 hw.size) hsz hv hln)
  have Q01 := hide hx1
  have hwd : widthK env x = if (evalW env x).2 = 0 ∧ ((evalW env x).1 < 1 ∨ 64 < (evalW env x).1) then (0, 83) else evalW env x := rfl
  rw [hwd]
  clear hT hR hS hS5 hx1 hsz HR HT HS hwd
  generalize evalW env x = r at *
  obtain ⟨r1, r2⟩ := r
  unfold pairV at *
  simp only at KE ⊢
  by_cases h2 : r2 = 0
  · by_cases h1 : r1 < 1
    · rw [if_pos ⟨h2, .inl h1⟩]
      subst h2
      go_enter Tryd.func18, Tryd.ntmps18
      go_wp2_with (go_at_call 14; refine (KE.out.at_ _).mono ?_; rintro _ _ ⟨rfl, e, rfl⟩)
      go_ret2
      exact ⟨rfl, Q01.out.trans (Later.ext _)⟩
    · by_cases h3 : 64 < r1
      · rw [if_pos ⟨h2, .inr h3⟩]
        subst h2
        have h1' : decide (r1 < 1) = false := by simpa using h1
        clear h1
        go_enter Tryd.func18, Tryd.ntmps18
        go_wp2_with (go_at_call 14; refine (KE.out.at_ _).mono ?_; rintro _ _ ⟨rfl, e, rfl⟩)
        go_ret2
        exact ⟨rfl, Q01.out.trans (Later.ext _)⟩
      · rw [if_neg (by omega)]
        subst h2
        have h1' : decide (r1 < 1) = false := by simpa using h1
        have h3' : decide (64 < r1) = false := by simpa using h3
        clear h1 h3
        go_enter Tryd.func18, Tryd.ntmps18
        go_wp2_with (go_at_call 14; refine (KE.out.at_ _).mono ?_; rintro _ _ ⟨rfl, e, rfl⟩)
        go_ret2
        exact ⟨rfl, Q01.out.trans (Later.ext _)⟩
  · rw [if_neg (fun h => h2 h.1)]
    have h2' : ((r2 : Int) == 0) = false := by simpa using h2
    clear h2
    go_enter Tryd.func18, Tryd.ntmps18
    go_wp2_with (go_at_call 14; refine (KE.out.at_ _).mono ?_; rintro _ _ ⟨rfl, e, rfl⟩)
    go_ret2
    exact ⟨rfl, Q01.out.trans (Later.ext _)⟩
set_option maxRecDepth 20000 in
set_option maxHeartbeats 1000000 in
theorem kNumber_any (B : Nat) (env : List (ByteArray × Int)) (x : X) (w : World) (ve : Value) (cs : List Value) (hT : Tabs w) (hR : RX w B x cs) (hS : Sl RNm w B 2 env ve) (hB : B ≤ w.heap.size) (hsz : sizeX x ≤ 1000000000) (hv : VX x) (hln : env.length ≤ 1000000000) :
    Calls Tryd.prog 20 #[.agg cs.toArray, ve] w fun e w' => e = .returned (.tuple #[.agg #[.int .i64 (numK env x).1.1, .int .u64 (numK env x).1.2], .int .i64 (numK env x).2]) ∧ Ext w w' := by
  have HR := hide hR
  have HT := hide hT
  have HS := hide hS
  obtain ⟨x5, rfl, hS5⟩ := RX_iff.1 hR
  have o5 := hS5.oneCell
  have oe := hS.oneCell
  obtain ⟨W1, e1, hV1, hx1, hs1, c0, c1, c2, c3, c4, c5⟩ := boxL6 w (.int .i64 x.op) (.string x.name) (.int .i64 x.n) (.int .i64 x.w) (.int .u64 x.v) x5 25
  obtain ⟨W2, hW2, hx2, hb2⟩ := box2 e1.w (.int .i64 0) (.int .u64 0) 36
  obtain ⟨e2, he2⟩ := Later.mk_ex (Ext.refl W2)
  have hV2 := hW2.symm.trans he2
  have q12 := e1.ext.trans hx2
  have q02 := hx1.trans q12
  have hg : w.heap.size ≤ e1.w.heap.size := Nat.le_trans hx1.size e1.ext.size
  have hB2 : B ≤ W2.heap.size := Nat.le_trans hB q02.size
  have KC := hide (show ECalls Tryd.prog 31 #[.agg #[.int .i64 x.op, .string x.name, .int .i64 x.n, .int .i64 x.w, .int .u64 x.v, x5]] W2 (.int .i64 (checkX x)) from fun w' hw => CheckX_any B x w' _ (HT.out.ext (q02.trans hw)) (HR.out.ext (q02.trans hw) hB) (Nat.le_trans hB2 hw.size) hsz hv)
  have KE := hide (show ECalls Tryd.prog 14 #[.agg #[.int .i64 x.op, .string x.name, .int .i64 x.n, .int .i64 x.w, .int .u64 x.v, x5], ve] W2 (pairV (evalW env x)) from fun w' hw => kEval_any B env x w' ve _ (HT.out.ext (q02.trans hw)) (HR.out.ext (q02.trans hw) hB) (HS.out.extN (q02.trans hw) hB) (Nat.le_trans hB2 hw.size) hsz hv hln)
  have c0 := cellL c0 q12
  have c1 := cellL c1 q12
  have c2 := cellL c2 q12
  have c3 := cellL c3 q12
  have c4 := cellL c4 q12
  have c5 := cellL c5 q12
  have Q02 := hide q02
  have HB2 := hide hb2
  have hbd : 0 ≤ (evalW env x).1 ∧ (evalW env x).1 ≤ 2147483647 := by
    unfold evalW
    split
    · exact eval_val
    · exact ⟨by decide, by decide⟩
  have hnum : numK env x = if x.op = 1 ∧ checkX x = 0 then ((x.w, x.v), 0) else ((0, (evalW env x).1), (evalW env x).2) := rfl
  rw [hnum]
  clear hT hR hS hS5 hx1 hsz HR HT HS hnum hv hW2 he2 hx2 hb2 q12 q02
  generalize evalW env x = r at *
  obtain ⟨r1, r2⟩ := r
  unfold pairV at *
  simp only at KE hbd ⊢
  obtain ⟨hbd0, hbd1⟩ := hbd
  by_cases h1 : x.op = 1
  · by_cases hc : checkX x = 0
    · rw [if_pos ⟨h1, hc⟩]
      rw [hc] at KC
      generalize x.op = op at *
      subst h1
      clear hc
      go_enter Tryd.func20, Tryd.ntmps20
      go_wp2_with fail
      refine (KC.out.at_ _).mono ?_
      rintro _ _ ⟨rfl, e, rfl⟩
      have hbe := HB2.out.ext e.ext
      obtain ⟨d0, d1⟩ := hbe.get2
      obtain ⟨f0, f1⟩ := hbe.free2
      obtain ⟨Wz, hWz⟩ : ∃ Wz, Wz = (e.w.setCell ⟨e1.w.heap.size, 0, none⟩ (.int .i64 x.w)).setCell ⟨e1.w.heap.size, 1, none⟩ (.int .u64 x.v) := ⟨_, rfl⟩
      have hbz := hbe.store2 (.int .i64 x.w) (.int .u64 x.v)
      rw [← hWz] at hbz
      obtain ⟨z0, z1⟩ := hbz.get2
      have HFIN := hide (show Ext w Wz by rw [hWz]; exact ((Q02.out.trans e.ext).setCell hg _).setCell hg _)
      have hVz := hWz.symm
      clear hbe hbz hWz
      go_wp2_with fail
      refine bodyPost_ret (v := .tuple #[.agg #[.int .i64 x.w, .int .u64 x.v], .int .i64 0]) ?_ rfl ⟨rfl, HFIN.out⟩
      simp [results, Tryd.results20, go_sem, z0, z1]
    · rw [if_neg (fun h => hc h.2)]
      generalize x.op = op at *
      subst h1
      generalize checkX x = tx at *
      have hc' : ((tx : Int) == 0) = false := by simpa using hc
      clear hc
      go_enter Tryd.func20, Tryd.ntmps20
      go_wp2_with (go_at_call 31; refine (KC.out.at_ _).mono ?_; rintro _ _ ⟨rfl, e, rfl⟩)
      refine (KE.out.at_ _).mono ?_
      rintro _ _ ⟨rfl, e, rfl⟩
      have hbe := HB2.out.ext e.ext
      obtain ⟨d0, d1⟩ := hbe.get2
      obtain ⟨f0, f1⟩ := hbe.free2
      obtain ⟨Wz, hWz⟩ : ∃ Wz, Wz = (e.w.setCell ⟨e1.w.heap.size, 0, none⟩ (.int .i64 0)).setCell ⟨e1.w.heap.size, 1, none⟩ (.int .u64 r1) := ⟨_, rfl⟩
      have hbz := hbe.store2 (.int .i64 0) (.int .u64 r1)
      rw [← hWz] at hbz
      obtain ⟨z0, z1⟩ := hbz.get2
      have HFIN := hide (show Ext w Wz by rw [hWz]; exact ((Q02.out.trans e.ext).setCell hg _).setCell hg _)
      have hVz := hWz.symm
      clear hbe hbz hWz
      go_wp2_with fail
      refine bodyPost_ret (v := .tuple #[.agg #[.int .i64 0, .int .u64 r1], .int .i64 r2]) ?_ rfl ⟨rfl, HFIN.out⟩
      simp [results, Tryd.results20, go_sem, z0, z1]
  · rw [if_neg (fun h => h1 h.1)]
    have h1' : ((x.op : Int) == 1) = false := by simpa using h1
    clear h1
    go_enter Tryd.func20, Tryd.ntmps20
    go_wp2_with fail
    refine (KE.out.at_ _).mono ?_
    rintro _ _ ⟨rfl, e, rfl⟩
    have hbe := HB2.out.ext e.ext
    obtain ⟨d0, d1⟩ := hbe.get2
    obtain ⟨f0, f1⟩ := hbe.free2
    obtain ⟨Wz, hWz⟩ : ∃ Wz, Wz = (e.w.setCell ⟨e1.w.heap.size, 0, none⟩ (.int .i64 0)).setCell ⟨e1.w.heap.size, 1, none⟩ (.int .u64 r1) := ⟨_, rfl⟩
    have hbz := hbe.store2 (.int .i64 0) (.int .u64 r1)
    rw [← hWz] at hbz
    obtain ⟨z0, z1⟩ := hbz.get2
    have HFIN := hide (show Ext w Wz by rw [hWz]; exact ((Q02.out.trans e.ext).setCell hg _).setCell hg _)
    have hVz := hWz.symm
    clear hbe hbz hWz
    go_wp2_with fail
    refine bodyPost_ret (v := .tuple #[.agg #[.int .i64 0, .int .u64 r1], .int .i64 r2]) ?_ rfl ⟨rfl, HFIN.out⟩
    simp [results, Tryd.results20, go_sem, z0, z1]

end Go.Proofs.YtonbgnaopkopoaaDoor
