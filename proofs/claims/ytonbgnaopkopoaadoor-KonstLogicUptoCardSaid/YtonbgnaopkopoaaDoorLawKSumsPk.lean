/-
  THE LAW KonstSums: WHAT IT COMPUTES.
-/
import Derived.Test.YtonbgnaopkopoaaDoorKlivePk
namespace Go.Proofs.YtonbgnaopkopoaaDoor
open Go Go.RowKit
set_option linter.all false
set_option linter.unusedVariables false
set_option linter.unusedSimpArgs false
set_option linter.unusedVariables false
set_option linter.unusedSimpArgs false
attribute [local go_sem] run_store_one

theorem isK_nums {op a b : Int} (h1 : 14 ≤ op) (h2 : op ≤ 26) (ha : insideK a) (hb : insideK b) : isK (xBin op (xN a) (xN b)) (twoK op a b) := by
  unfold isK
  rw [evalW_nums h1 h2 ha hb]
  by_cases h : insideK (twoK op a b)
  · rw [told_in h, if_neg (by unfold insideK at h; omega)]
  · rw [told_out h, if_pos (by unfold insideK at h; omega)]
/-- A function that puts a truth as a number. -/
theorem lbit_any (b : Bool) (w : World) : Calls Tryd.prog 28 #[.bool b] w fun e w' => e = .returned (.int .i64 (bitK b)) ∧ w' = w := by
  go_enter Tryd.func28, Tryd.ntmps28
  cases b
  · go_wp2
    go_ret
    exact ⟨rfl, rfl⟩
  · go_wp2
    go_ret
    exact ⟨rfl, rfl⟩
theorem size_nums {op a b : Int} : sizeX (xBin op (xN a) (xN b)) ≤ 1000000000 := by rw [size_xBin, size_xN, size_xN]; decide
theorem opened (w : World) : ∃ (e : Later w) (Q : World → Prop), w = e.w ∧ Ext w = Q := by
  obtain ⟨e, h⟩ := Later.mk_ex (Ext.refl w)
  exact ⟨e, Ext w, h, rfl⟩

set_option maxRecDepth 20000 in
set_option maxHeartbeats 8000000 in
theorem lawKSums_any (a b : Int) (w : World) (hT : Tabs w) :
    Calls Tryd.prog 5 #[.int .i64 a, .int .i64 b] w fun e w' => e = .returned (.bool true) ∧ Ext w w' := by
  have GL := hide (show ECalls Tryd.prog 12 #[] w (.bool true) from fun w' hw => live6_any w' (hT.ext hw))
  have HT := hide hT
  obtain ⟨e0, Q, hw0, hQ⟩ := opened w
  have FIN := hide (show ∀ e : Later w, Q e.w from fun e => by rw [← hQ]; exact Later.ext e)
  rw [hQ, hw0]
  clear hT hw0 hQ
  by_cases h1 : a < 0
  · have d1 : decide (a < 0) = true := decide_eq_true h1
    clear h1
    go_enter Tryd.func5, Tryd.ntmps5
    go_wp2_with (go_at_call 12; refine (GL.out.at_ _).mono ?_; rintro _ _ ⟨rfl, e, rfl⟩)
    go_ret
    exact ⟨rfl, FIN.out _⟩
  have d1 : decide (a < 0) = false := decide_eq_false h1
  by_cases h2 : b < 0
  · have d2 : decide (b < 0) = true := decide_eq_true h2
    clear h1 h2
    go_enter Tryd.func5, Tryd.ntmps5
    go_wp2_with (go_at_call 12; refine (GL.out.at_ _).mono ?_; rintro _ _ ⟨rfl, e, rfl⟩)
    go_ret
    exact ⟨rfl, FIN.out _⟩
  have d2 : decide (b < 0) = false := decide_eq_false h2
  by_cases h3 : 2147483647 < a
  · have d3 : decide (2147483647 < a) = true := decide_eq_true h3
    clear h1 h2 h3
    go_enter Tryd.func5, Tryd.ntmps5
    go_wp2_with (go_at_call 12; refine (GL.out.at_ _).mono ?_; rintro _ _ ⟨rfl, e, rfl⟩)
    go_ret
    exact ⟨rfl, FIN.out _⟩
  have d3 : decide (2147483647 < a) = false := decide_eq_false h3
  by_cases h4 : 2147483647 < b
  · have d4 : decide (2147483647 < b) = true := decide_eq_true h4
    clear h1 h2 h3 h4
    go_enter Tryd.func5, Tryd.ntmps5
    go_wp2_with (go_at_call 12; refine (GL.out.at_ _).mono ?_; rintro _ _ ⟨rfl, e, rfl⟩)
    go_ret
    exact ⟨rfl, FIN.out _⟩
  have d4 : decide (2147483647 < b) = false := decide_eq_false h4
  have ha : insideK a := ⟨by omega, by omega⟩
  have hb : insideK b := ⟨by omega, by omega⟩
  have NA := hide (show ECalls Tryd.prog 27 #[.int .i64 a] w (.agg #[.int .i64 1, .string ⟨#[]⟩, .int .i64 0, .int .i64 0, .int .u64 a, .slice none 0 0]) from fun w' _ => num_any a w' ha.1 ha.2)
  have NB := hide (show ECalls Tryd.prog 27 #[.int .i64 b] w (.agg #[.int .i64 1, .string ⟨#[]⟩, .int .i64 0, .int .i64 0, .int .u64 b, .slice none 0 0]) from fun w' _ => num_any b w' hb.1 hb.2)
  have BN := hide (show ∀ (op : Int) (w' : World), Ext w w' → Calls Tryd.prog 26 #[.int .i64 op, (.agg #[.int .i64 1, .string ⟨#[]⟩, .int .i64 0, .int .i64 0, .int .u64 a, .slice none 0 0]), (.agg #[.int .i64 1, .string ⟨#[]⟩, .int .i64 0, .int .i64 0, .int .u64 b, .slice none 0 0])] w' fun r w'' => ∃ q, r = .returned (.agg #[.int .i64 6, .string ⟨#[]⟩, .int .i64 op, .int .i64 0, .int .u64 0, .slice (some ⟨q, 0, none⟩) 2 2]) ∧ RX w'' w''.heap.size (xBin op (xN a) (xN b)) [.int .i64 6, .string ⟨#[]⟩, .int .i64 op, .int .i64 0, .int .u64 0, .slice (some ⟨q, 0, none⟩) 2 2] ∧ Ext w' w'' from
    fun op w' _ => bin_any w'.heap.size op (xN a) (xN b) w' _ _ (rx_num2 a) (rx_num2 b) (Nat.le_refl _))
  have IS := hide (show ∀ (op n : Int) (q : Nat) (w' : World), Ext w w' → RX w' w'.heap.size (xBin op (xN a) (xN b)) [.int .i64 6, .string ⟨#[]⟩, .int .i64 op, .int .i64 0, .int .u64 0, .slice (some ⟨q, 0, none⟩) 2 2] → isK (xBin op (xN a) (xN b)) n →
      Calls Tryd.prog 25 #[.agg #[.int .i64 6, .string ⟨#[]⟩, .int .i64 op, .int .i64 0, .int .u64 0, .slice (some ⟨q, 0, none⟩) 2 2], .int .i64 n] w' fun r w'' => r = .returned (.bool true) ∧ Ext w' w'' from
    fun op n q w' hw hR hn => is_any w'.heap.size _ n w' [_, _, _, _, _, _] (HT.out.ext hw) hR (Nat.le_refl _) size_nums (vx_xBin (vx_xN ha.1 ha.2) (vx_xN hb.1 hb.2)) hn)
  have F14 := hide (show isK (xBin 14 (xN a) (xN b)) (a + b) from isK_nums (op := 14) (by decide) (by decide) ha hb)
  have F15 := hide (show isK (xBin 15 (xN a) (xN b)) (a - b) from isK_nums (op := 15) (by decide) (by decide) ha hb)
  have F16 := hide (show isK (xBin 16 (xN a) (xN b)) (a * b) from isK_nums (op := 16) (by decide) (by decide) ha hb)
  have F21 := hide (show isK (xBin 21 (xN a) (xN b)) (bitK (decide (a < b))) from isK_nums (op := 21) (by decide) (by decide) ha hb)
  have F24 := hide (show isK (xBin 24 (xN a) (xN b)) (bitK (decide (b ≤ a))) from isK_nums (op := 24) (by decide) (by decide) ha hb)
  have F19 := hide (show isK (xBin 19 (xN a) (xN b)) (bitK (a == b)) from isK_nums (op := 19) (by decide) (by decide) ha hb)
  have F20 := hide (show isK (xBin 20 (xN a) (xN b)) (bitK (a != b)) from isK_nums (op := 20) (by decide) (by decide) ha hb)
  have F22 := hide (show isK (xBin 22 (xN a) (xN b)) (bitK (decide (a ≤ b))) from isK_nums (op := 22) (by decide) (by decide) ha hb)
  have F23 := hide (show isK (xBin 23 (xN a) (xN b)) (bitK (decide (b < a))) from isK_nums (op := 23) (by decide) (by decide) ha hb)
  have hm0 : 0 ≤ a * b := Int.mul_nonneg ha.1 hb.1
  have hm1 : a * b ≤ 4611686014132420609 := by
    have := Int.mul_le_mul ha.2 hb.2 hb.1 (show (0 : Int) ≤ 2147483647 by decide)
    omega
  clear HT ha hb
  go_enter Tryd.func5, Tryd.ntmps5
  go_wp2_with (first
      | (go_at_call 12; refine (GL.out.at_ _).mono ?_; rintro _ _ ⟨rfl, e, rfl⟩)
      | (go_at_call 27; refine (NA.out.at_ _).mono ?_; rintro _ _ ⟨rfl, e, rfl⟩)
      | (go_at_call 27; refine (NB.out.at_ _).mono ?_; rintro _ _ ⟨rfl, e, rfl⟩)
      | (go_at_call 28; refine (lbit_any _ _).mono ?_; rintro _ wz ⟨rfl, rfl⟩)
      | (go_at_call 26; refine (BN.out _ _ (Later.ext _)).mono ?_; rintro _ wz ⟨q, rfl, hq, xq⟩; obtain ⟨e, rfl⟩ := Later.mk_ex ((Later.ext _).trans xq); have HQ := hide hq; clear hq xq)
      | (go_at_call 25; refine (IS.out _ _ _ _ (Later.ext _) HQ.out (by first | exact F14.out | exact F15.out | exact F16.out | exact F21.out | exact F24.out | exact F19.out | exact F20.out | exact F22.out | exact F23.out)).mono ?_; rintro _ wz ⟨rfl, xq⟩; obtain ⟨e, rfl⟩ := Later.mk_ex ((Later.ext _).trans xq); clear HQ xq))
  go_ret
  exact ⟨rfl, FIN.out _⟩

end Go.Proofs.YtonbgnaopkopoaaDoor
