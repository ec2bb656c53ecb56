/-
  THE LAW KonstEval: WHAT IT COMPUTES.
-/
import Derived.Test.YtonbgnaopkopoaaDoorKlivePk
import Derived.Test.YtonbgnaopkopoaaDoorRevPk
namespace Go.Proofs.YtonbgnaopkopoaaDoor
open Go Go.RowKit
set_option linter.all false
set_option linter.unusedVariables false
set_option linter.unusedSimpArgs false
set_option linter.unusedVariables false
set_option linter.unusedSimpArgs false
attribute [local go_sem] run_store_one

set_option maxRecDepth 20000 in
set_option maxHeartbeats 2000000 in
theorem lawKEval_any (B : Nat) (env : List (ByteArray × Int)) (x : X) (s : ByteArray) (w : World) (ve : Value) (cs : List Value) (hT : Tabs w) (hR : RX w B x cs) (hS : Sl RNm w B 2 env ve) (hB : B ≤ w.heap.size) (hsz : sizeX x ≤ 1000000000) (hv : VX x) (hln : env.length ≤ 1000000000) :
    Calls Tryd.prog 3 #[.agg cs.toArray, ve, .string s] w fun e w' => e = .returned (.bool true) ∧ Ext w w' := by
  have HR := hide hR
  have HT := hide hT
  have HS := hide hS
  obtain ⟨x5, rfl, hS5⟩ := RX_iff.1 hR
  have o5 := hS5.oneCell
  have oe := hS.oneCell
  obtain ⟨W1, e1, hV1, hx1, hs1, c0, c1, c2, c3, c4, c5⟩ := boxL6 w (.int .i64 x.op) (.string x.name) (.int .i64 x.n) (.int .i64 x.w) (.int .u64 x.v) x5 25
  have hB1 : B ≤ W1.heap.size := Nat.le_trans hB hx1.size
  have GL := hide (show ECalls Tryd.prog 12 #[] W1 (.bool true) from fun w' hw => live6_any w' (HT.out.ext (hx1.trans hw)))
  have GF := hide (show ECalls Tryd.prog 13 #[.agg #[.int .i64 x.op, .string x.name, .int .i64 x.n, .int .i64 x.w, .int .u64 x.v, x5], ve] W1 (.bool (yes (fewE x env.length))) from fun w' hw => fewE_any B env x w' ve _ (HR.out.ext (hx1.trans hw) hB) (HS.out.extN (hx1.trans hw) hB) (Nat.le_trans hB1 hw.size) hsz hln)
  have KE := hide (show ECalls Tryd.prog 14 #[.agg #[.int .i64 x.op, .string x.name, .int .i64 x.n, .int .i64 x.w, .int .u64 x.v, x5], ve] W1 (pairV (evalW env x)) from fun w' hw => kEval_any B env x w' ve _ (HT.out.ext (hx1.trans hw)) (HR.out.ext (hx1.trans hw) hB) (HS.out.extN (hx1.trans hw) hB) (Nat.le_trans hB1 hw.size) hsz hv hln)
  have RE := hide (show ECalls Tryd.prog 15 #[.agg #[.int .i64 x.op, .string x.name, .int .i64 x.n, .int .i64 x.w, .int .u64 x.v, x5], ve] W1 (pairV (evalW env x)) from fun w' hw => rEval_any B env x w' ve _ (HT.out.ext (hx1.trans hw)) (HR.out.ext (hx1.trans hw) hB) (HS.out.extN (hx1.trans hw) hB) (Nat.le_trans hB1 hw.size) hsz hv hln)
  have KL := hide (show ECalls Tryd.prog 16 #[ve, .string s] W1 (.tuple #[.int .i64 ((lookE env s).getD 0), .bool (lookE env s).isSome]) from fun w' hw => klookup_any B env s w' ve (HS.out.extN (hx1.trans hw) hB) (Nat.le_trans hB1 hw.size) hln)
  have RL := hide (show ECalls Tryd.prog 17 #[ve, .string s] W1 (.tuple #[.int .i64 ((lookE env s).getD 0), .bool (lookE env s).isSome]) from ECalls.still fun w' hw => rlookup_any B env s w' ve (HS.out.extN (hx1.trans hw) hB) (Nat.le_trans hB1 hw.size) hln)
  have Q01 := hide hx1
  clear hT hR hS hS5 hx1 hsz HR HT HS hv hln hB1 hs1
  generalize yes (fewE x env.length) = bf at *
  generalize (lookE env s).getD 0 = l1 at *
  generalize (lookE env s).isSome = l2 at *
  generalize evalW env x = r at *
  obtain ⟨r1, r2⟩ := r
  unfold pairV at *
  simp only at KE RE
  go_enter Tryd.func3, Tryd.ntmps3
  go_wp2_with (first
    | (go_at_call 12; refine (GL.out.at_ _).mono ?_; rintro _ _ ⟨rfl, e, rfl⟩)
    | (go_at_call 13; refine (GF.out.at_ _).mono ?_; rintro _ _ ⟨rfl, e, rfl⟩)
    | (go_at_call 14; refine (KE.out.at_ _).mono ?_; rintro _ _ ⟨rfl, e, rfl⟩)
    | (go_at_call 15; refine (RE.out.at_ _).mono ?_; rintro _ _ ⟨rfl, e, rfl⟩)
    | (go_at_call 16; refine (KL.out.at_ _).mono ?_; rintro _ _ ⟨rfl, e, rfl⟩)
    | (go_at_call 17; refine (RL.out.at_ _).mono ?_; rintro _ _ ⟨rfl, e, rfl⟩))
  all_goals
    go_ret
    exact ⟨rfl, Q01.out.trans (Later.ext _)⟩

end Go.Proofs.YtonbgnaopkopoaaDoor
