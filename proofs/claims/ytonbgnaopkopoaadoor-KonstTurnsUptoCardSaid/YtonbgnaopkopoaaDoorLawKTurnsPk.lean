/-
  THE LAW KonstTurns: WHAT IT COMPUTES.
-/
import Derived.Test.YtonbgnaopkopoaaDoorLawKSumsPk
namespace Go.Proofs.YtonbgnaopkopoaaDoor
open Go Go.RowKit
set_option linter.all false
set_option linter.unusedVariables false
set_option linter.unusedSimpArgs false
set_option linter.unusedVariables false
set_option linter.unusedSimpArgs false
attribute [local go_sem] run_store_one

theorem pow_pos2 (k : Int) : 0 < (2 : Int) ^ k.toNat := Int.pow_pos (by decide)
/-- A shift upwards that stays a constant's value. -/
theorem shift_fits {a k : Int} (ha : 0 ≤ a) (hk : 0 ≤ k) (h : a * 2 ^ k.toNat ≤ 2147483647) : twoK 17 a k = a * 2 ^ k.toNat := by
  show shiftK a k = _
  unfold shiftK
  by_cases h0 : a = 0
  · subst h0; simp
  · rw [if_neg h0, if_neg]
    intro hc
    rcases hc with hc | hc
    · have h31 : (2 : Int) ^ 31 ≤ 2 ^ k.toNat := by
        obtain ⟨n, rfl⟩ := Int.eq_ofNat_of_zero_le hk
        have : 31 ≤ n := by omega
        exact_mod_cast Nat.pow_le_pow_right (by decide) this
      have h1 : (1 : Int) * 2 ^ 31 ≤ a * 2 ^ k.toNat := Int.mul_le_mul (by omega) h31 (by decide) (by omega)
      have : (1 : Int) * 2 ^ 31 = 2147483648 := by decide
      omega
    · omega
theorem shift_over {a k : Int} (ha : 0 ≤ a) (hk : 0 ≤ k) (h : 2147483647 < a * 2 ^ k.toNat) : toldK (twoK 17 a k) = (0, 62) ∧ 0 < a := by
  have h0 : a ≠ 0 := fun e => by subst e; simp at h
  refine ⟨?_, by omega⟩
  show toldK (shiftK a k) = _
  unfold shiftK
  rw [if_neg h0, if_pos (.inr h)]
  rfl
theorem shift_back {a k : Int} : a * 2 ^ k.toNat / 2 ^ k.toNat = a := Int.mul_ediv_cancel a (by have := pow_pos2 k; omega)
theorem down_is {a k : Int} (h1 : k ≤ 40) : twoK 18 a k = a / 2 ^ k.toNat := by
  show a / 2 ^ (min k 63).toNat = _
  rw [show min k 63 = k by omega]
theorem inside_down {a k : Int} (ha : insideK a) : insideK (a / 2 ^ k.toNat) := by
  have hp := pow_pos2 k
  refine ⟨Int.ediv_nonneg ha.1 (by omega), ?_⟩
  have : a / 2 ^ k.toNat ≤ a := Int.ediv_le_self _ ha.1
  have := ha.2
  omega
theorem isK_of {x : X} {n : Int} (h : evalW [] x = (n, 0)) (hi : insideK n) : isK x n := by
  unfold isK
  rw [if_neg (by unfold insideK at hi; omega)]
  exact h
theorem eval_up {a k : Int} (ha : insideK a) (hk : insideK k) (h : insideK (a * 2 ^ k.toNat)) : evalW [] (xBin 17 (xN a) (xN k)) = (a * 2 ^ k.toNat, 0) := by
  rw [evalW_nums (by decide) (by decide) ha hk, shift_fits ha.1 hk.1 h.2, told_in h]
theorem eval_updown {a k : Int} (ha : insideK a) (hk : insideK k) (hk' : k ≤ 40) (h : insideK (a * 2 ^ k.toNat)) : evalW [] (xBin 18 (xBin 17 (xN a) (xN k)) (xN k)) = (a, 0) := by
  have hu := eval_up ha hk h
  rw [evalW_of (by rw [size_xBin, size_xN, size_xN]; decide) (by rw [deep_xBin, deep_xN, deep_xN]; decide) (may_xBin (by decide) (by decide) (may_xN _) (may_xN _))] at hu
  rw [evalW_of (by rw [size_xBin, size_xBin, size_xN, size_xN]; decide) (by rw [deep_xBin, deep_xBin, deep_xN, deep_xN]; decide) (may_xBin (by decide) (by decide) (may_xBin (by decide) (by decide) (may_xN _) (may_xN _)) (may_xN _))]
  rw [eval_xBin (by decide) (by decide), hu, eval_xN, told_in hk]
  simp only [ne_eq, not_true_eq_false, if_false]
  rw [down_is hk', shift_back, told_in ha]
theorem wrap_is {z : Int} (h : 9223372036854775807 < z) : ∃ m : Int, m ≠ 0 ∧ wrap64 z = z - m * 18446744073709551616 := by
  unfold wrap64
  refine ⟨(z + 9223372036854775808) / 18446744073709551616, by omega, ?_⟩
  have := Int.emod_add_mul_ediv (z + 9223372036854775808) 18446744073709551616
  omega
theorem wrap_back {a k v : Int} (hk : 0 ≤ k) (hk' : k ≤ 40) (hv : ∃ m : Int, m ≠ 0 ∧ v = a * 2 ^ k.toNat - m * 18446744073709551616) : v / 2 ^ k.toNat ≠ a := by
  obtain ⟨m, hm, rfl⟩ := hv
  obtain ⟨n, rfl⟩ := Int.eq_ofNat_of_zero_le hk
  have hn : n ≤ 40 := by omega
  have hp : (18446744073709551616 : Int) = 2 ^ (64 - n) * 2 ^ n := by
    rw [← Int.pow_add, show 64 - n + n = 64 by omega]; decide
  intro he
  rw [show ((n : Int)).toNat = n from rfl] at he
  rw [hp, show a * 2 ^ n - m * (2 ^ (64 - n) * 2 ^ n) = (a - m * 2 ^ (64 - n)) * 2 ^ n by rw [Int.sub_mul, Int.mul_assoc]] at he
  rw [Int.mul_ediv_cancel _ (by have := pow_pos2 (n : Int); rw [show ((n : Int)).toNat = n from rfl] at this; omega)] at he
  have h2 : m * 2 ^ (64 - n) = 0 := by omega
  rcases Int.mul_eq_zero.1 h2 with h | h
  · exact hm h
  · have := pow_pos2 ((64 - n : Nat) : Int); rw [show (((64 - n : Nat) : Int)).toNat = 64 - n from rfl] at this; omega

/-- What is known of the values of the last region. -/
def turF (a k : Int) (h : Nat) (i : Nat) (v : Value) (w : World) : Prop := match i with
  | 0 | 1 | 7 | 8 | 9 | 19 | 20 | 21 | 27 | 28 | 29 | 36 | 37 | 38 => v = .bool true
  | 2 | 22 | 30 => v = .agg #[.int .i64 6, .string ⟨#[]⟩, .int .i64 17, .int .i64 0, .int .u64 0, .slice (some ⟨h, 0, none⟩) 2 2]
  | 3 | 10 | 15 | 26 | 31 => v = .int .i64 a
  | 4 | 12 | 16 | 23 | 32 => v = .int .i64 k
  | 5 | 17 | 33 => v = .int .u64 k
  | 6 | 35 => v = .int .i64 (a * 2 ^ k.toNat)
  | 11 => v = (.agg #[.int .i64 1, .string ⟨#[]⟩, .int .i64 0, .int .i64 0, .int .u64 a, .slice none 0 0])
  | 13 | 24 => v = (.agg #[.int .i64 1, .string ⟨#[]⟩, .int .i64 0, .int .i64 0, .int .u64 k, .slice none 0 0])
  | 14 => ∃ q, v = .agg #[.int .i64 6, .string ⟨#[]⟩, .int .i64 18, .int .i64 0, .int .u64 0, .slice (some ⟨q, 0, none⟩) 2 2] ∧ RX w w.heap.size (xBin 18 (xN a) (xN k)) [.int .i64 6, .string ⟨#[]⟩, .int .i64 18, .int .i64 0, .int .u64 0, .slice (some ⟨q, 0, none⟩) 2 2]
  | 18 => v = .int .i64 (a / 2 ^ k.toNat)
  | 25 => ∃ q, v = .agg #[.int .i64 6, .string ⟨#[]⟩, .int .i64 18, .int .i64 0, .int .u64 0, .slice (some ⟨q, 0, none⟩) 2 2] ∧ RX w w.heap.size (xBin 18 (xBin 17 (xN a) (xN k)) (xN k)) [.int .i64 6, .string ⟨#[]⟩, .int .i64 18, .int .i64 0, .int .u64 0, .slice (some ⟨q, 0, none⟩) 2 2]
  | 34 => v = .int .i64 (2 ^ k.toNat)
  | _ => True
theorem turF_ext {a k : Int} {h : Nat} {i : Nat} {v : Value} {w w' : World} (hh : turF a k h i v w) (hx : Ext w w') : turF a k h i v w' := by
  unfold turF at *
  split at hh
  all_goals first | exact hh | (obtain ⟨q, h1, h2⟩ := hh; exact ⟨q, h1, (h2.ext hx (Nat.le_refl _)).more hx.size⟩)

set_option maxRecDepth 20000 in
set_option maxHeartbeats 8000000 in
theorem lawKTurns_any (a k : Int) (w : World) (hT : Tabs w) :
    Calls Tryd.prog 6 #[.int .i64 a, .int .i64 k] w fun e w' => e = .returned (.bool true) ∧ Ext w w' := by
  have GL := hide (show ECalls Tryd.prog 12 #[] w (.bool true) from fun w' hw => live6_any w' (hT.ext hw))
  have HT := hide hT
  obtain ⟨e0, Q, hw0, hQ⟩ := opened w
  have FIN := hide (show ∀ w', Ext w w' → Q w' from fun w' h => by rw [← hQ]; exact h)
  rw [hQ, hw0]
  clear hT hw0 hQ
  by_cases h0 : a < 0
  · have d0 : decide (a < 0) = true := decide_eq_true h0
    clear h0
    go_enter Tryd.func6, Tryd.ntmps6
    go_wp2_with (go_at_call 12; refine (GL.out.at_ _).mono ?_; rintro _ _ ⟨rfl, e, rfl⟩)
    go_ret
    exact ⟨rfl, FIN.out _ (Later.ext _)⟩
  have d0 : decide (a < 0) = false := decide_eq_false h0
  by_cases h1 : 2147483647 < a
  · have d1 : decide (2147483647 < a) = true := decide_eq_true h1
    clear h0 h1
    go_enter Tryd.func6, Tryd.ntmps6
    go_wp2_with (go_at_call 12; refine (GL.out.at_ _).mono ?_; rintro _ _ ⟨rfl, e, rfl⟩)
    go_ret
    exact ⟨rfl, FIN.out _ (Later.ext _)⟩
  have d1 : decide (2147483647 < a) = false := decide_eq_false h1
  by_cases h2 : k < 0
  · have d2 : decide (k < 0) = true := decide_eq_true h2
    clear h0 h1 h2
    go_enter Tryd.func6, Tryd.ntmps6
    go_wp2_with (go_at_call 12; refine (GL.out.at_ _).mono ?_; rintro _ _ ⟨rfl, e, rfl⟩)
    go_ret
    exact ⟨rfl, FIN.out _ (Later.ext _)⟩
  have d2 : decide (k < 0) = false := decide_eq_false h2
  by_cases h3 : 40 < k
  · have d3 : decide (40 < k) = true := decide_eq_true h3
    clear h0 h1 h2 h3
    go_enter Tryd.func6, Tryd.ntmps6
    go_wp2_with (go_at_call 12; refine (GL.out.at_ _).mono ?_; rintro _ _ ⟨rfl, e, rfl⟩)
    go_ret
    exact ⟨rfl, FIN.out _ (Later.ext _)⟩
  have d3 : decide (40 < k) = false := decide_eq_false h3
  have ha : insideK a := ⟨by omega, by omega⟩
  have hk : insideK k := ⟨by omega, by omega⟩
  have hk40 : k ≤ 40 := by omega
  have NA := hide (show ECalls Tryd.prog 27 #[.int .i64 a] w (.agg #[.int .i64 1, .string ⟨#[]⟩, .int .i64 0, .int .i64 0, .int .u64 a, .slice none 0 0]) from fun w' _ => num_any a w' ha.1 ha.2)
  have NB := hide (show ECalls Tryd.prog 27 #[.int .i64 k] w (.agg #[.int .i64 1, .string ⟨#[]⟩, .int .i64 0, .int .i64 0, .int .u64 k, .slice none 0 0]) from fun w' _ => num_any k w' hk.1 hk.2)
  have BN := hide (show ∀ (op : Int) (w' : World), Calls Tryd.prog 26 #[.int .i64 op, (.agg #[.int .i64 1, .string ⟨#[]⟩, .int .i64 0, .int .i64 0, .int .u64 a, .slice none 0 0]), (.agg #[.int .i64 1, .string ⟨#[]⟩, .int .i64 0, .int .i64 0, .int .u64 k, .slice none 0 0])] w' fun r w'' => ∃ q, r = .returned (.agg #[.int .i64 6, .string ⟨#[]⟩, .int .i64 op, .int .i64 0, .int .u64 0, .slice (some ⟨q, 0, none⟩) 2 2]) ∧ RX w'' w''.heap.size (xBin op (xN a) (xN k)) [.int .i64 6, .string ⟨#[]⟩, .int .i64 op, .int .i64 0, .int .u64 0, .slice (some ⟨q, 0, none⟩) 2 2] ∧ Ext w' w'' from
    fun op w' => bin_any w'.heap.size op (xN a) (xN k) w' _ _ (rx_num2 a) (rx_num2 k) (Nat.le_refl _))
  have BH := hide (show ∀ (q : Nat) (w' : World), RX w' w'.heap.size (xBin 17 (xN a) (xN k)) [.int .i64 6, .string ⟨#[]⟩, .int .i64 17, .int .i64 0, .int .u64 0, .slice (some ⟨q, 0, none⟩) 2 2] → Calls Tryd.prog 26 #[.int .i64 18, .agg #[.int .i64 6, .string ⟨#[]⟩, .int .i64 17, .int .i64 0, .int .u64 0, .slice (some ⟨q, 0, none⟩) 2 2], (.agg #[.int .i64 1, .string ⟨#[]⟩, .int .i64 0, .int .i64 0, .int .u64 k, .slice none 0 0])] w' fun r w'' => ∃ q, r = .returned (.agg #[.int .i64 6, .string ⟨#[]⟩, .int .i64 18, .int .i64 0, .int .u64 0, .slice (some ⟨q, 0, none⟩) 2 2]) ∧ RX w'' w''.heap.size (xBin 18 (xBin 17 (xN a) (xN k)) (xN k)) [.int .i64 6, .string ⟨#[]⟩, .int .i64 18, .int .i64 0, .int .u64 0, .slice (some ⟨q, 0, none⟩) 2 2] ∧ Ext w' w'' from
    fun q w' h => bin_any w'.heap.size 18 _ (xN k) w' _ _ h (rx_num2 k) (Nat.le_refl _))
  have IS := hide (show ∀ (x : X) (n op : Int) (q : Nat) (w' : World), Ext w w' → RX w' w'.heap.size x [.int .i64 6, .string ⟨#[]⟩, .int .i64 op, .int .i64 0, .int .u64 0, .slice (some ⟨q, 0, none⟩) 2 2] → sizeX x ≤ 1000000000 → VX x → isK x n →
      Calls Tryd.prog 25 #[.agg #[.int .i64 6, .string ⟨#[]⟩, .int .i64 op, .int .i64 0, .int .u64 0, .slice (some ⟨q, 0, none⟩) 2 2], .int .i64 n] w' fun r w'' => r = .returned (.bool true) ∧ Ext w' w'' from
    fun x n op q w' hw hR hs hv hn => is_any w'.heap.size _ n w' [_, _, _, _, _, _] (HT.out.ext hw) hR (Nat.le_refl _) hs hv hn)
  have KE := hide (show ∀ (q : Nat) (w' : World), Ext w w' → RX w' w'.heap.size (xBin 17 (xN a) (xN k)) [.int .i64 6, .string ⟨#[]⟩, .int .i64 17, .int .i64 0, .int .u64 0, .slice (some ⟨q, 0, none⟩) 2 2] →
      Calls Tryd.prog 14 #[.agg #[.int .i64 6, .string ⟨#[]⟩, .int .i64 17, .int .i64 0, .int .u64 0, .slice (some ⟨q, 0, none⟩) 2 2], .slice none 0 0] w' fun r w'' => r = .returned (pairV (toldK (twoK 17 a k))) ∧ Ext w' w'' from
    fun q w' hw hR => by
      have h := kEval_any w'.heap.size [] _ w' _ [_, _, _, _, _, _] (HT.out.ext hw) hR Sl.nil (Nat.le_refl _) size_nums (vx_xBin (vx_xN ha.1 ha.2) (vx_xN hk.1 hk.2)) (by decide)
      rwa [evalW_nums (by decide) (by decide) ha hk] at h)
  have hp := pow_pos2 k
  have hz0 : 0 ≤ a * 2 ^ k.toNat := Int.mul_nonneg ha.1 (by omega)
  clear h0 h1 h2 h3
  by_cases hf : a * 2 ^ k.toNat ≤ 2147483647
  · have hz : insideK (a * 2 ^ k.toNat) := ⟨hz0, hf⟩
    have F1 := hide (isK_of (eval_up ha hk hz) hz)
    have F2 := hide (isK_of (x := xBin 18 (xN a) (xN k)) (n := a / 2 ^ k.toNat) (by rw [evalW_nums (by decide) (by decide) ha hk, down_is hk40, told_in (inside_down ha)]) (inside_down ha))
    have F3 := hide (isK_of (eval_updown ha hk hk40 hz) ha)
    have hsb := shift_back (a := a) (k := k)
    have h2p : (2 : Int) ^ k.toNat ≤ 1099511627776 := by
      obtain ⟨n, rfl⟩ := Int.eq_ofNat_of_zero_le hk.1
      have : n ≤ 40 := by omega
      have h40 : (1099511627776 : Int) = 2 ^ 40 := by decide
      rw [h40]
      exact_mod_cast Nat.pow_le_pow_right (by decide) this
    have V1 := vx_xBin (op := 17) (vx_xN ha.1 ha.2) (vx_xN hk.1 hk.2)
    have I1 := hide (fun q w' hw hR => IS.out _ _ 17 q w' hw hR size_nums V1 F1.out)
    have I2 := hide (fun q w' hw hR => IS.out _ _ 18 q w' hw hR size_nums (vx_xBin (vx_xN ha.1 ha.2) (vx_xN hk.1 hk.2)) F2.out)
    have I3 := hide (fun q w' hw hR => IS.out _ _ 18 q w' hw hR (by rw [size_xBin, size_xBin, size_xN, size_xN]; decide) (vx_xBin V1 (vx_xN hk.1 hk.2)) F3.out)
    have df : decide (a * 2 ^ k.toNat ≤ 2147483647) = true := decide_eq_true hf
    have hk0 := hk.1
    have ha0 := ha.1
    have ha1 := ha.2
    clear HT ha hk V1 F1 F2 F3 IS KE hz
    go_enter Tryd.func6, Tryd.ntmps6
    go_wp2_with (first
      | (go_at_call 12; refine (GL.out.at_ _).mono ?_; rintro _ _ ⟨rfl, e, rfl⟩)
      | (go_at_call 27; with_reducible refine (NA.out.at_ _).mono ?_; rintro _ _ ⟨rfl, e, rfl⟩)
      | (go_at_call 27; with_reducible refine (NB.out.at_ _).mono ?_; rintro _ _ ⟨rfl, e, rfl⟩))
    go_at_call 26
    refine (BN.out _ _).mono ?_
    rintro _ wz ⟨q, rfl, hq, xq⟩
    obtain ⟨e, rfl⟩ := Later.mk_ex ((Later.ext _).trans xq)
    obtain ⟨Wb, hWb, hxb, hbb⟩ := box6 e.w (.int .i64 0) (.string ⟨#[]⟩) (.int .i64 0) (.int .i64 0) (.int .u64 0) (.slice none 0 0) 25
    obtain ⟨m0, m1, m2, m3, m4, m5⟩ := hbb.get6
    obtain ⟨n0, n1, n2, n3, n4, n5⟩ := hbb.free6
    obtain ⟨Wc, hWc⟩ : ∃ Wc, Wc = ((((((Wb.setCell ⟨e.w.heap.size, 0, none⟩ (.int .i64 6)).setCell ⟨e.w.heap.size, 1, none⟩ (.string ⟨#[]⟩)).setCell ⟨e.w.heap.size, 2, none⟩ (.int .i64 17)).setCell ⟨e.w.heap.size, 3, none⟩ (.int .i64 0)).setCell ⟨e.w.heap.size, 4, none⟩ (.int .u64 0)).setCell ⟨e.w.heap.size, 5, none⟩ (.slice (some ⟨q, 0, none⟩) 2 2)) := ⟨_, rfl⟩
    have hbc := hbb.store6 (.int .i64 6) (.string ⟨#[]⟩) (.int .i64 17) (.int .i64 0) (.int .u64 0) (.slice (some ⟨q, 0, none⟩) 2 2)
    rw [← hWc] at hbc
    have hbx : Ext e.w Wc := by rw [hWc]; exact (((((hxb.setCell (Nat.le_refl _) _).setCell (Nat.le_refl _) _).setCell (Nat.le_refl _) _).setCell (Nat.le_refl _) _).setCell (Nat.le_refl _) _).setCell (Nat.le_refl _) _
    obtain ⟨ec, hec⟩ := Later.mk_ex (Ext.refl Wc)
    have hVb := hWb.symm
    have hVc := hWc.symm.trans hec
    have q0c := (Later.ext e).trans hbx
    have Q0 := hide q0c
    obtain ⟨c0, c1, c2, c3, c4, c5⟩ := hbc.later6
    have HH := hide (show ∀ w', Ext Wc w' → RX w' w'.heap.size (xBin 17 (xN a) (xN k)) [.int .i64 6, .string ⟨#[]⟩, .int .i64 17, .int .i64 0, .int .u64 0, .slice (some ⟨q, 0, none⟩) 2 2] from fun w' hw => (hq.ext (hbx.trans hw) (Nat.le_refl _)).more (hbx.trans hw).size)
    replace NA := hide (NA.out.later q0c)
    replace NB := hide (NB.out.later q0c)
    clear hWb hxb hbb hWc hbc hbx hec q0c hq xq GL
    go_wp2_with fail
    refine wp_region_facts_g (W := Wc) (turF a k q) (by kernel_rfl) (by kernel_rfl) ?_ (Later.ext _) (fun i v w w' h hx => turF_ext h hx) ?_ ?_
    · simp [GuardsMet, turF]
    · refine ⟨?_, ?_, ?_, ?_, ?_, ?_, ?_, ?_, ?_, ?_, ?_, ?_, ?_, ?_, ?_, ?_, ?_, ?_, ?_, ?_, ?_, ?_, ?_, ?_, ?_, ?_, ?_, ?_, ?_, ?_, ?_, ?_, ?_, ?_, ?_, ?_, ?_, ?_, ?_, trivial⟩
      · intro A wa hxa hd h0
        obtain ⟨ea, rfl⟩ := Later.mk_ex hxa
        have r5 := rest_at h0 5 (by kernel_rfl)
        simp at r5
        clear hd h0
        go_simp
        first | exact ⟨_, rfl, Ext.refl _, rfl⟩ | exact ⟨Ext.refl _, rfl⟩ | exact rfl | exact ⟨_, rfl, rfl⟩
      · intro A wa hxa hd h0
        obtain ⟨ea, rfl⟩ := Later.mk_ex hxa
        have q0 := depOn hd 0 65 (by kernel_rfl) rfl
        simp [turF] at q0
        clear hd h0
        go_simp
        first | exact ⟨_, rfl, Ext.refl _, rfl⟩ | exact ⟨Ext.refl _, rfl⟩ | exact rfl | exact ⟨_, rfl, rfl⟩
      · intro A wa hxa hd h0
        obtain ⟨ea, rfl⟩ := Later.mk_ex hxa
        have r6 := rest_at h0 6 (by kernel_rfl)
        simp at r6
        clear hd h0
        go_simp
        first | exact ⟨_, rfl, Ext.refl _, rfl⟩ | exact ⟨Ext.refl _, rfl⟩ | exact rfl | exact ⟨_, rfl, rfl⟩
      · intro A wa hxa hd h0
        obtain ⟨ea, rfl⟩ := Later.mk_ex hxa
        have r0 := rest_at h0 0 (by kernel_rfl)
        simp at r0
        clear hd h0
        go_simp
        first | exact ⟨_, rfl, Ext.refl _, rfl⟩ | exact ⟨Ext.refl _, rfl⟩ | exact rfl | exact ⟨_, rfl, rfl⟩
      · intro A wa hxa hd h0
        obtain ⟨ea, rfl⟩ := Later.mk_ex hxa
        have r1 := rest_at h0 1 (by kernel_rfl)
        simp at r1
        clear hd h0
        go_simp
        first | exact ⟨_, rfl, Ext.refl _, rfl⟩ | exact ⟨Ext.refl _, rfl⟩ | exact rfl | exact ⟨_, rfl, rfl⟩
      · intro A wa hxa hd h0
        obtain ⟨ea, rfl⟩ := Later.mk_ex hxa
        have q4 := depOn hd 4 69 (by kernel_rfl) rfl
        simp [turF] at q4
        clear hd h0
        go_simp
        try simp (disch := omega) only [IntWalk.i64_in, IntWalk.u64_in]
        first | exact ⟨_, rfl, Ext.refl _, rfl⟩ | exact ⟨Ext.refl _, rfl⟩ | exact rfl | exact ⟨_, rfl, rfl⟩
      · intro A wa hxa hd h0
        obtain ⟨ea, rfl⟩ := Later.mk_ex hxa
        have q3 := depOn hd 3 68 (by kernel_rfl) rfl
        simp [turF] at q3
        have q5 := depOn hd 5 70 (by kernel_rfl) rfl
        simp [turF] at q5
        clear hd h0
        go_simp
        try simp (disch := omega) only [IntWalk.i64_in, IntWalk.u64_in]
        first | exact ⟨_, rfl, Ext.refl _, rfl⟩ | exact ⟨Ext.refl _, rfl⟩ | exact rfl | exact ⟨_, rfl, rfl⟩
      · intro A wa hxa hd h0
        obtain ⟨ea, rfl⟩ := Later.mk_ex hxa
        have q2 := depOn hd 2 67 (by kernel_rfl) rfl
        simp [turF] at q2
        have q6 := depOn hd 6 71 (by kernel_rfl) rfl
        simp [turF] at q6
        clear hd h0
        go_simp
        refine (I1.out q ea.w (Q0.out.trans ea.ext) (HH.out ea.w ea.ext)).mono ?_
        rintro e w2 ⟨rfl, hx⟩
        go_simp
        first | exact ⟨_, rfl, hx, rfl⟩ | exact ⟨hx, rfl⟩ | exact rfl | exact ⟨_, rfl, rfl⟩
      · intro A wa hxa hd h0
        obtain ⟨ea, rfl⟩ := Later.mk_ex hxa
        have q1 := depOn hd 1 66 (by kernel_rfl) rfl
        simp [turF] at q1
        have q7 := depOn hd 7 72 (by kernel_rfl) rfl
        simp [turF] at q7
        clear hd h0
        go_simp
        first | exact ⟨_, rfl, Ext.refl _, rfl⟩ | exact ⟨Ext.refl _, rfl⟩ | exact rfl | exact ⟨_, rfl, rfl⟩
      · intro A wa hxa hd h0
        obtain ⟨ea, rfl⟩ := Later.mk_ex hxa
        have q8 := depOn hd 8 73 (by kernel_rfl) rfl
        simp [turF] at q8
        clear hd h0
        go_simp
        first | exact ⟨_, rfl, Ext.refl _, rfl⟩ | exact ⟨Ext.refl _, rfl⟩ | exact rfl | exact ⟨_, rfl, rfl⟩
      · intro A wa hxa hd h0
        obtain ⟨ea, rfl⟩ := Later.mk_ex hxa
        have r0 := rest_at h0 0 (by kernel_rfl)
        simp at r0
        clear hd h0
        go_simp
        first | exact ⟨_, rfl, Ext.refl _, rfl⟩ | exact ⟨Ext.refl _, rfl⟩ | exact rfl | exact ⟨_, rfl, rfl⟩
      · intro A wa hxa hd h0
        obtain ⟨ea, rfl⟩ := Later.mk_ex hxa
        have q10 := depOn hd 10 75 (by kernel_rfl) rfl
        simp [turF] at q10
        clear hd h0
        go_simp
        refine (NA.out ea.w ea.ext).mono ?_
        rintro e w2 ⟨rfl, hx⟩
        go_simp
        first | exact ⟨_, rfl, hx, rfl⟩ | exact ⟨hx, rfl⟩ | exact rfl | exact ⟨_, rfl, rfl⟩
      · intro A wa hxa hd h0
        obtain ⟨ea, rfl⟩ := Later.mk_ex hxa
        have r1 := rest_at h0 1 (by kernel_rfl)
        simp at r1
        clear hd h0
        go_simp
        first | exact ⟨_, rfl, Ext.refl _, rfl⟩ | exact ⟨Ext.refl _, rfl⟩ | exact rfl | exact ⟨_, rfl, rfl⟩
      · intro A wa hxa hd h0
        obtain ⟨ea, rfl⟩ := Later.mk_ex hxa
        have q12 := depOn hd 12 77 (by kernel_rfl) rfl
        simp [turF] at q12
        clear hd h0
        go_simp
        refine (NB.out ea.w ea.ext).mono ?_
        rintro e w2 ⟨rfl, hx⟩
        go_simp
        first | exact ⟨_, rfl, hx, rfl⟩ | exact ⟨hx, rfl⟩ | exact rfl | exact ⟨_, rfl, rfl⟩
      · intro A wa hxa hd h0
        obtain ⟨ea, rfl⟩ := Later.mk_ex hxa
        have q11 := depOn hd 11 76 (by kernel_rfl) rfl
        simp [turF] at q11
        have q13 := depOn hd 13 78 (by kernel_rfl) rfl
        simp [turF] at q13
        clear hd h0
        go_simp
        refine (BN.out 18 ea.w).mono ?_
        rintro e w2 ⟨g, rfl, hR, hx⟩
        go_simp
        first | exact ⟨_, rfl, hx, ⟨g, rfl, hR⟩⟩ | exact ⟨hx, ⟨g, rfl, hR⟩⟩ | exact ⟨g, rfl, hR⟩ | exact ⟨_, rfl, ⟨g, rfl, hR⟩⟩
      · intro A wa hxa hd h0
        obtain ⟨ea, rfl⟩ := Later.mk_ex hxa
        have r0 := rest_at h0 0 (by kernel_rfl)
        simp at r0
        clear hd h0
        go_simp
        first | exact ⟨_, rfl, Ext.refl _, rfl⟩ | exact ⟨Ext.refl _, rfl⟩ | exact rfl | exact ⟨_, rfl, rfl⟩
      · intro A wa hxa hd h0
        obtain ⟨ea, rfl⟩ := Later.mk_ex hxa
        have r1 := rest_at h0 1 (by kernel_rfl)
        simp at r1
        clear hd h0
        go_simp
        first | exact ⟨_, rfl, Ext.refl _, rfl⟩ | exact ⟨Ext.refl _, rfl⟩ | exact rfl | exact ⟨_, rfl, rfl⟩
      · intro A wa hxa hd h0
        obtain ⟨ea, rfl⟩ := Later.mk_ex hxa
        have q16 := depOn hd 16 81 (by kernel_rfl) rfl
        simp [turF] at q16
        clear hd h0
        go_simp
        try simp (disch := omega) only [IntWalk.i64_in, IntWalk.u64_in]
        first | exact ⟨_, rfl, Ext.refl _, rfl⟩ | exact ⟨Ext.refl _, rfl⟩ | exact rfl | exact ⟨_, rfl, rfl⟩
      · intro A wa hxa hd h0
        obtain ⟨ea, rfl⟩ := Later.mk_ex hxa
        have q15 := depOn hd 15 80 (by kernel_rfl) rfl
        simp [turF] at q15
        have q17 := depOn hd 17 82 (by kernel_rfl) rfl
        simp [turF] at q17
        clear hd h0
        go_simp
        try simp (disch := omega) only [IntWalk.i64_in, IntWalk.u64_in]
        first | exact ⟨_, rfl, Ext.refl _, rfl⟩ | exact ⟨Ext.refl _, rfl⟩ | exact rfl | exact ⟨_, rfl, rfl⟩
      · intro A wa hxa hd h0
        obtain ⟨ea, rfl⟩ := Later.mk_ex hxa
        obtain ⟨g14, q14, hR14⟩ := depOn hd 14 79 (by kernel_rfl) rfl
        simp at q14
        have q18 := depOn hd 18 83 (by kernel_rfl) rfl
        simp [turF] at q18
        clear hd h0
        go_simp
        refine (I2.out _ ea.w (Q0.out.trans ea.ext) hR14).mono ?_
        rintro e w2 ⟨rfl, hx⟩
        go_simp
        first | exact ⟨_, rfl, hx, rfl⟩ | exact ⟨hx, rfl⟩ | exact rfl | exact ⟨_, rfl, rfl⟩
      · intro A wa hxa hd h0
        obtain ⟨ea, rfl⟩ := Later.mk_ex hxa
        have q9 := depOn hd 9 74 (by kernel_rfl) rfl
        simp [turF] at q9
        have q19 := depOn hd 19 84 (by kernel_rfl) rfl
        simp [turF] at q19
        clear hd h0
        go_simp
        first | exact ⟨_, rfl, Ext.refl _, rfl⟩ | exact ⟨Ext.refl _, rfl⟩ | exact rfl | exact ⟨_, rfl, rfl⟩
      · intro A wa hxa hd h0
        obtain ⟨ea, rfl⟩ := Later.mk_ex hxa
        have q20 := depOn hd 20 85 (by kernel_rfl) rfl
        simp [turF] at q20
        clear hd h0
        go_simp
        first | exact ⟨_, rfl, Ext.refl _, rfl⟩ | exact ⟨Ext.refl _, rfl⟩ | exact rfl | exact ⟨_, rfl, rfl⟩
      · intro A wa hxa hd h0
        obtain ⟨ea, rfl⟩ := Later.mk_ex hxa
        have r6 := rest_at h0 6 (by kernel_rfl)
        simp at r6
        clear hd h0
        go_simp
        first | exact ⟨_, rfl, Ext.refl _, rfl⟩ | exact ⟨Ext.refl _, rfl⟩ | exact rfl | exact ⟨_, rfl, rfl⟩
      · intro A wa hxa hd h0
        obtain ⟨ea, rfl⟩ := Later.mk_ex hxa
        have r1 := rest_at h0 1 (by kernel_rfl)
        simp at r1
        clear hd h0
        go_simp
        first | exact ⟨_, rfl, Ext.refl _, rfl⟩ | exact ⟨Ext.refl _, rfl⟩ | exact rfl | exact ⟨_, rfl, rfl⟩
      · intro A wa hxa hd h0
        obtain ⟨ea, rfl⟩ := Later.mk_ex hxa
        have q23 := depOn hd 23 88 (by kernel_rfl) rfl
        simp [turF] at q23
        clear hd h0
        go_simp
        refine (NB.out ea.w ea.ext).mono ?_
        rintro e w2 ⟨rfl, hx⟩
        go_simp
        first | exact ⟨_, rfl, hx, rfl⟩ | exact ⟨hx, rfl⟩ | exact rfl | exact ⟨_, rfl, rfl⟩
      · intro A wa hxa hd h0
        obtain ⟨ea, rfl⟩ := Later.mk_ex hxa
        have q22 := depOn hd 22 87 (by kernel_rfl) rfl
        simp [turF] at q22
        have q24 := depOn hd 24 89 (by kernel_rfl) rfl
        simp [turF] at q24
        clear hd h0
        go_simp
        refine (BH.out q ea.w (HH.out ea.w ea.ext)).mono ?_
        rintro e w2 ⟨g, rfl, hR, hx⟩
        go_simp
        first | exact ⟨_, rfl, hx, ⟨g, rfl, hR⟩⟩ | exact ⟨hx, ⟨g, rfl, hR⟩⟩ | exact ⟨g, rfl, hR⟩ | exact ⟨_, rfl, ⟨g, rfl, hR⟩⟩
      · intro A wa hxa hd h0
        obtain ⟨ea, rfl⟩ := Later.mk_ex hxa
        have r0 := rest_at h0 0 (by kernel_rfl)
        simp at r0
        clear hd h0
        go_simp
        first | exact ⟨_, rfl, Ext.refl _, rfl⟩ | exact ⟨Ext.refl _, rfl⟩ | exact rfl | exact ⟨_, rfl, rfl⟩
      · intro A wa hxa hd h0
        obtain ⟨ea, rfl⟩ := Later.mk_ex hxa
        obtain ⟨g25, q25, hR25⟩ := depOn hd 25 90 (by kernel_rfl) rfl
        simp at q25
        have q26 := depOn hd 26 91 (by kernel_rfl) rfl
        simp [turF] at q26
        clear hd h0
        go_simp
        refine (I3.out _ ea.w (Q0.out.trans ea.ext) hR25).mono ?_
        rintro e w2 ⟨rfl, hx⟩
        go_simp
        first | exact ⟨_, rfl, hx, rfl⟩ | exact ⟨hx, rfl⟩ | exact rfl | exact ⟨_, rfl, rfl⟩
      · intro A wa hxa hd h0
        obtain ⟨ea, rfl⟩ := Later.mk_ex hxa
        have q21 := depOn hd 21 86 (by kernel_rfl) rfl
        simp [turF] at q21
        have q27 := depOn hd 27 92 (by kernel_rfl) rfl
        simp [turF] at q27
        clear hd h0
        go_simp
        first | exact ⟨_, rfl, Ext.refl _, rfl⟩ | exact ⟨Ext.refl _, rfl⟩ | exact rfl | exact ⟨_, rfl, rfl⟩
      · intro A wa hxa hd h0
        obtain ⟨ea, rfl⟩ := Later.mk_ex hxa
        have q28 := depOn hd 28 93 (by kernel_rfl) rfl
        simp [turF] at q28
        clear hd h0
        go_simp
        first | exact ⟨_, rfl, Ext.refl _, rfl⟩ | exact ⟨Ext.refl _, rfl⟩ | exact rfl | exact ⟨_, rfl, rfl⟩
      · intro A wa hxa hd h0
        obtain ⟨ea, rfl⟩ := Later.mk_ex hxa
        have r6 := rest_at h0 6 (by kernel_rfl)
        simp at r6
        clear hd h0
        go_simp
        first | exact ⟨_, rfl, Ext.refl _, rfl⟩ | exact ⟨Ext.refl _, rfl⟩ | exact rfl | exact ⟨_, rfl, rfl⟩
      · intro A wa hxa hd h0
        obtain ⟨ea, rfl⟩ := Later.mk_ex hxa
        have r0 := rest_at h0 0 (by kernel_rfl)
        simp at r0
        clear hd h0
        go_simp
        first | exact ⟨_, rfl, Ext.refl _, rfl⟩ | exact ⟨Ext.refl _, rfl⟩ | exact rfl | exact ⟨_, rfl, rfl⟩
      · intro A wa hxa hd h0
        obtain ⟨ea, rfl⟩ := Later.mk_ex hxa
        have r1 := rest_at h0 1 (by kernel_rfl)
        simp at r1
        clear hd h0
        go_simp
        first | exact ⟨_, rfl, Ext.refl _, rfl⟩ | exact ⟨Ext.refl _, rfl⟩ | exact rfl | exact ⟨_, rfl, rfl⟩
      · intro A wa hxa hd h0
        obtain ⟨ea, rfl⟩ := Later.mk_ex hxa
        have q32 := depOn hd 32 97 (by kernel_rfl) rfl
        simp [turF] at q32
        clear hd h0
        go_simp
        try simp (disch := omega) only [IntWalk.i64_in, IntWalk.u64_in]
        first | exact ⟨_, rfl, Ext.refl _, rfl⟩ | exact ⟨Ext.refl _, rfl⟩ | exact rfl | exact ⟨_, rfl, rfl⟩
      · intro A wa hxa hd h0
        obtain ⟨ea, rfl⟩ := Later.mk_ex hxa
        have q33 := depOn hd 33 98 (by kernel_rfl) rfl
        simp [turF] at q33
        clear hd h0
        go_simp
        try simp (disch := omega) only [IntWalk.i64_in, IntWalk.u64_in]
        first | exact ⟨_, rfl, Ext.refl _, rfl⟩ | exact ⟨Ext.refl _, rfl⟩ | exact rfl | exact ⟨_, rfl, rfl⟩
      · intro A wa hxa hd h0
        obtain ⟨ea, rfl⟩ := Later.mk_ex hxa
        have q31 := depOn hd 31 96 (by kernel_rfl) rfl
        simp [turF] at q31
        have q34 := depOn hd 34 99 (by kernel_rfl) rfl
        simp [turF] at q34
        clear hd h0
        go_simp
        try simp (disch := omega) only [IntWalk.i64_in, IntWalk.u64_in]
        first | exact ⟨_, rfl, Ext.refl _, rfl⟩ | exact ⟨Ext.refl _, rfl⟩ | exact rfl | exact ⟨_, rfl, rfl⟩
      · intro A wa hxa hd h0
        obtain ⟨ea, rfl⟩ := Later.mk_ex hxa
        have q30 := depOn hd 30 95 (by kernel_rfl) rfl
        simp [turF] at q30
        have q35 := depOn hd 35 100 (by kernel_rfl) rfl
        simp [turF] at q35
        clear hd h0
        go_simp
        refine (I1.out q ea.w (Q0.out.trans ea.ext) (HH.out ea.w ea.ext)).mono ?_
        rintro e w2 ⟨rfl, hx⟩
        go_simp
        first | exact ⟨_, rfl, hx, rfl⟩ | exact ⟨hx, rfl⟩ | exact rfl | exact ⟨_, rfl, rfl⟩
      · intro A wa hxa hd h0
        obtain ⟨ea, rfl⟩ := Later.mk_ex hxa
        have q29 := depOn hd 29 94 (by kernel_rfl) rfl
        simp [turF] at q29
        have q36 := depOn hd 36 101 (by kernel_rfl) rfl
        simp [turF] at q36
        clear hd h0
        go_simp
        first | exact ⟨_, rfl, Ext.refl _, rfl⟩ | exact ⟨Ext.refl _, rfl⟩ | exact rfl | exact ⟨_, rfl, rfl⟩
      · intro A wa hxa hd h0
        obtain ⟨ea, rfl⟩ := Later.mk_ex hxa
        have q37 := depOn hd 37 102 (by kernel_rfl) rfl
        simp [turF] at q37
        clear hd h0
        go_simp
        first | exact ⟨_, rfl, Ext.refl _, rfl⟩ | exact ⟨Ext.refl _, rfl⟩ | exact rfl | exact ⟨_, rfl, rfl⟩
    · intro A wa hk
      obtain ⟨hxa, hsz, hdf, hdn, hrs⟩ := hk
      obtain ⟨ea, rfl⟩ := Later.mk_ex hxa
      have k4 : A.tmps.getD 4 undef = .bool true := hdn 38 4 rfl rfl
      clear hdn hrs
      rw [act_lit hsz hdf]
      simp [List.range, List.range.loop] at k4
      simp [List.range, List.range.loop, k4]
      clear k4 hsz hdf
      generalize A.tmps[0]?.getD undef = A0 at *
      generalize A.tmps[1]?.getD undef = A1 at *
      generalize A.tmps[2]?.getD undef = A2 at *
      generalize A.tmps[3]?.getD undef = A3 at *
      generalize A.tmps[5]?.getD undef = A5 at *
      generalize A.tmps[6]?.getD undef = A6 at *
      generalize A.tmps[7]?.getD undef = A7 at *
      generalize A.tmps[8]?.getD undef = A8 at *
      generalize A.tmps[9]?.getD undef = A9 at *
      generalize A.tmps[10]?.getD undef = A10 at *
      generalize A.tmps[11]?.getD undef = A11 at *
      generalize A.tmps[12]?.getD undef = A12 at *
      generalize A.tmps[13]?.getD undef = A13 at *
      generalize A.tmps[14]?.getD undef = A14 at *
      generalize A.tmps[15]?.getD undef = A15 at *
      generalize A.tmps[16]?.getD undef = A16 at *
      generalize A.tmps[17]?.getD undef = A17 at *
      generalize A.tmps[18]?.getD undef = A18 at *
      generalize A.tmps[19]?.getD undef = A19 at *
      generalize A.tmps[20]?.getD undef = A20 at *
      generalize A.tmps[21]?.getD undef = A21 at *
      generalize A.tmps[22]?.getD undef = A22 at *
      generalize A.tmps[23]?.getD undef = A23 at *
      generalize A.tmps[24]?.getD undef = A24 at *
      generalize A.tmps[25]?.getD undef = A25 at *
      generalize A.tmps[26]?.getD undef = A26 at *
      generalize A.tmps[27]?.getD undef = A27 at *
      generalize A.tmps[28]?.getD undef = A28 at *
      generalize A.tmps[29]?.getD undef = A29 at *
      generalize A.tmps[30]?.getD undef = A30 at *
      generalize A.tmps[31]?.getD undef = A31 at *
      generalize A.tmps[32]?.getD undef = A32 at *
      generalize A.tmps[33]?.getD undef = A33 at *
      generalize A.tmps[34]?.getD undef = A34 at *
      generalize A.tmps[35]?.getD undef = A35 at *
      generalize A.tmps[36]?.getD undef = A36 at *
      generalize A.tmps[37]?.getD undef = A37 at *
      generalize A.tmps[38]?.getD undef = A38 at *
      generalize A.tmps[39]?.getD undef = A39 at *
      generalize A.tmps[40]?.getD undef = A40 at *
      generalize A.tmps[41]?.getD undef = A41 at *
      generalize A.tmps[42]?.getD undef = A42 at *
      generalize A.tmps[43]?.getD undef = A43 at *
      generalize A.tmps[44]?.getD undef = A44 at *
      generalize A.tmps[45]?.getD undef = A45 at *
      generalize A.tmps[46]?.getD undef = A46 at *
      generalize A.tmps[47]?.getD undef = A47 at *
      generalize A.tmps[48]?.getD undef = A48 at *
      generalize A.tmps[49]?.getD undef = A49 at *
      generalize A.tmps[50]?.getD undef = A50 at *
      generalize A.tmps[51]?.getD undef = A51 at *
      generalize A.tmps[52]?.getD undef = A52 at *
      generalize A.tmps[53]?.getD undef = A53 at *
      generalize A.tmps[54]?.getD undef = A54 at *
      generalize A.tmps[55]?.getD undef = A55 at *
      generalize A.tmps[56]?.getD undef = A56 at *
      generalize A.tmps[57]?.getD undef = A57 at *
      generalize A.tmps[58]?.getD undef = A58 at *
      generalize A.tmps[59]?.getD undef = A59 at *
      generalize A.tmps[60]?.getD undef = A60 at *
      generalize A.tmps[61]?.getD undef = A61 at *
      generalize A.tmps[62]?.getD undef = A62 at *
      generalize A.tmps[63]?.getD undef = A63 at *
      generalize A.tmps[64]?.getD undef = A64 at *
      generalize A.tmps[65]?.getD undef = A65 at *
      generalize A.tmps[66]?.getD undef = A66 at *
      generalize A.tmps[67]?.getD undef = A67 at *
      generalize A.tmps[68]?.getD undef = A68 at *
      generalize A.tmps[69]?.getD undef = A69 at *
      generalize A.tmps[70]?.getD undef = A70 at *
      generalize A.tmps[71]?.getD undef = A71 at *
      generalize A.tmps[72]?.getD undef = A72 at *
      generalize A.tmps[73]?.getD undef = A73 at *
      generalize A.tmps[74]?.getD undef = A74 at *
      generalize A.tmps[75]?.getD undef = A75 at *
      generalize A.tmps[76]?.getD undef = A76 at *
      generalize A.tmps[77]?.getD undef = A77 at *
      generalize A.tmps[78]?.getD undef = A78 at *
      generalize A.tmps[79]?.getD undef = A79 at *
      generalize A.tmps[80]?.getD undef = A80 at *
      generalize A.tmps[81]?.getD undef = A81 at *
      generalize A.tmps[82]?.getD undef = A82 at *
      generalize A.tmps[83]?.getD undef = A83 at *
      generalize A.tmps[84]?.getD undef = A84 at *
      generalize A.tmps[85]?.getD undef = A85 at *
      generalize A.tmps[86]?.getD undef = A86 at *
      generalize A.tmps[87]?.getD undef = A87 at *
      generalize A.tmps[88]?.getD undef = A88 at *
      generalize A.tmps[89]?.getD undef = A89 at *
      generalize A.tmps[90]?.getD undef = A90 at *
      generalize A.tmps[91]?.getD undef = A91 at *
      generalize A.tmps[92]?.getD undef = A92 at *
      generalize A.tmps[93]?.getD undef = A93 at *
      generalize A.tmps[94]?.getD undef = A94 at *
      generalize A.tmps[95]?.getD undef = A95 at *
      generalize A.tmps[96]?.getD undef = A96 at *
      generalize A.tmps[97]?.getD undef = A97 at *
      generalize A.tmps[98]?.getD undef = A98 at *
      generalize A.tmps[99]?.getD undef = A99 at *
      generalize A.tmps[100]?.getD undef = A100 at *
      generalize A.tmps[101]?.getD undef = A101 at *
      generalize A.tmps[102]?.getD undef = A102 at *
      go_wp2_with fail
      go_ret
      exact ⟨rfl, FIN.out _ (Q0.out.trans (Later.ext _))⟩
  · obtain ⟨ho, hap⟩ := shift_over ha.1 hk.1 (by omega)
    rw [ho] at KE
    unfold pairV at KE
    have dp : decide (0 < a) = true := decide_eq_true hap
    have df : decide (a * 2 ^ k.toNat ≤ 2147483647) = false := decide_eq_false hf
    have WB := hide (fun v h => wrap_back (a := a) (k := k) (v := v) hk.1 hk40 h)
    have hk0 := hk.1
    have ha0 := ha.1
    have ha1 := ha.2
    clear HT ha hk IS ho BH
    by_cases hbig : 9223372036854775807 < a * 2 ^ k.toNat
    · have hne := WB.out _ (wrap_is hbig)
      by_cases hv : wrap64 (a * 2 ^ k.toNat) ≤ 2147483647
      · have dv : decide (wrap64 (a * 2 ^ k.toNat) ≤ 2147483647) = true := decide_eq_true hv
        have dn : (wrap64 (a * 2 ^ k.toNat) / 2 ^ k.toNat == a) = false := by simpa using hne
        clear WB hne hv
        go_enter Tryd.func6, Tryd.ntmps6
        go_wp2_with (first
          | (go_at_call 12; refine (GL.out.at_ _).mono ?_; rintro _ _ ⟨rfl, e, rfl⟩)
          | (go_at_call 27; with_reducible refine (NA.out.at_ _).mono ?_; rintro _ _ ⟨rfl, e, rfl⟩)
          | (go_at_call 27; with_reducible refine (NB.out.at_ _).mono ?_; rintro _ _ ⟨rfl, e, rfl⟩))
        go_at_call 26
        refine (BN.out _ _).mono ?_
        rintro _ wz ⟨q, rfl, hq, xq⟩
        obtain ⟨e, rfl⟩ := Later.mk_ex ((Later.ext _).trans xq)
        obtain ⟨Wb, hWb, hxb, hbb⟩ := box6 e.w (.int .i64 0) (.string ⟨#[]⟩) (.int .i64 0) (.int .i64 0) (.int .u64 0) (.slice none 0 0) 25
        obtain ⟨m0, m1, m2, m3, m4, m5⟩ := hbb.get6
        obtain ⟨n0, n1, n2, n3, n4, n5⟩ := hbb.free6
        obtain ⟨Wc, hWc⟩ : ∃ Wc, Wc = ((((((Wb.setCell ⟨e.w.heap.size, 0, none⟩ (.int .i64 6)).setCell ⟨e.w.heap.size, 1, none⟩ (.string ⟨#[]⟩)).setCell ⟨e.w.heap.size, 2, none⟩ (.int .i64 17)).setCell ⟨e.w.heap.size, 3, none⟩ (.int .i64 0)).setCell ⟨e.w.heap.size, 4, none⟩ (.int .u64 0)).setCell ⟨e.w.heap.size, 5, none⟩ (.slice (some ⟨q, 0, none⟩) 2 2)) := ⟨_, rfl⟩
        have hbc := hbb.store6 (.int .i64 6) (.string ⟨#[]⟩) (.int .i64 17) (.int .i64 0) (.int .u64 0) (.slice (some ⟨q, 0, none⟩) 2 2)
        rw [← hWc] at hbc
        have hbx : Ext e.w Wc := by rw [hWc]; exact (((((hxb.setCell (Nat.le_refl _) _).setCell (Nat.le_refl _) _).setCell (Nat.le_refl _) _).setCell (Nat.le_refl _) _).setCell (Nat.le_refl _) _).setCell (Nat.le_refl _) _
        obtain ⟨ec, hec⟩ := Later.mk_ex (Ext.refl Wc)
        have hVb := hWb.symm
        have hVc := hWc.symm.trans hec
        have q0c := (Later.ext e).trans hbx
        have Q0 := hide q0c
        obtain ⟨c0, c1, c2, c3, c4, c5⟩ := hbc.later6
        have HH := hide (show ∀ w', Ext Wc w' → RX w' w'.heap.size (xBin 17 (xN a) (xN k)) [.int .i64 6, .string ⟨#[]⟩, .int .i64 17, .int .i64 0, .int .u64 0, .slice (some ⟨q, 0, none⟩) 2 2] from fun w' hw => (hq.ext (hbx.trans hw) (Nat.le_refl _)).more (hbx.trans hw).size)
        replace NA := hide (NA.out.later q0c)
        replace NB := hide (NB.out.later q0c)
        clear hWb hxb hbb hWc hbc hbx hec q0c hq xq GL
        go_wp2_with (go_at_call 14; refine (KE.out _ _ (Q0.out.trans (Later.ext _)) (HH.out _ (Later.ext _))).mono ?_; rintro _ wz ⟨rfl, xq⟩; obtain ⟨e, rfl⟩ := Later.mk_ex ((Later.ext _).trans xq); clear xq)
        go_ret
        exact ⟨rfl, FIN.out _ (Q0.out.trans (Later.ext _))⟩
      · have dv : decide (wrap64 (a * 2 ^ k.toNat) ≤ 2147483647) = false := decide_eq_false hv
        clear WB hne hv
        go_enter Tryd.func6, Tryd.ntmps6
        go_wp2_with (first
          | (go_at_call 12; refine (GL.out.at_ _).mono ?_; rintro _ _ ⟨rfl, e, rfl⟩)
          | (go_at_call 27; with_reducible refine (NA.out.at_ _).mono ?_; rintro _ _ ⟨rfl, e, rfl⟩)
          | (go_at_call 27; with_reducible refine (NB.out.at_ _).mono ?_; rintro _ _ ⟨rfl, e, rfl⟩))
        go_at_call 26
        refine (BN.out _ _).mono ?_
        rintro _ wz ⟨q, rfl, hq, xq⟩
        obtain ⟨e, rfl⟩ := Later.mk_ex ((Later.ext _).trans xq)
        obtain ⟨Wb, hWb, hxb, hbb⟩ := box6 e.w (.int .i64 0) (.string ⟨#[]⟩) (.int .i64 0) (.int .i64 0) (.int .u64 0) (.slice none 0 0) 25
        obtain ⟨m0, m1, m2, m3, m4, m5⟩ := hbb.get6
        obtain ⟨n0, n1, n2, n3, n4, n5⟩ := hbb.free6
        obtain ⟨Wc, hWc⟩ : ∃ Wc, Wc = ((((((Wb.setCell ⟨e.w.heap.size, 0, none⟩ (.int .i64 6)).setCell ⟨e.w.heap.size, 1, none⟩ (.string ⟨#[]⟩)).setCell ⟨e.w.heap.size, 2, none⟩ (.int .i64 17)).setCell ⟨e.w.heap.size, 3, none⟩ (.int .i64 0)).setCell ⟨e.w.heap.size, 4, none⟩ (.int .u64 0)).setCell ⟨e.w.heap.size, 5, none⟩ (.slice (some ⟨q, 0, none⟩) 2 2)) := ⟨_, rfl⟩
        have hbc := hbb.store6 (.int .i64 6) (.string ⟨#[]⟩) (.int .i64 17) (.int .i64 0) (.int .u64 0) (.slice (some ⟨q, 0, none⟩) 2 2)
        rw [← hWc] at hbc
        have hbx : Ext e.w Wc := by rw [hWc]; exact (((((hxb.setCell (Nat.le_refl _) _).setCell (Nat.le_refl _) _).setCell (Nat.le_refl _) _).setCell (Nat.le_refl _) _).setCell (Nat.le_refl _) _).setCell (Nat.le_refl _) _
        obtain ⟨ec, hec⟩ := Later.mk_ex (Ext.refl Wc)
        have hVb := hWb.symm
        have hVc := hWc.symm.trans hec
        have q0c := (Later.ext e).trans hbx
        have Q0 := hide q0c
        obtain ⟨c0, c1, c2, c3, c4, c5⟩ := hbc.later6
        have HH := hide (show ∀ w', Ext Wc w' → RX w' w'.heap.size (xBin 17 (xN a) (xN k)) [.int .i64 6, .string ⟨#[]⟩, .int .i64 17, .int .i64 0, .int .u64 0, .slice (some ⟨q, 0, none⟩) 2 2] from fun w' hw => (hq.ext (hbx.trans hw) (Nat.le_refl _)).more (hbx.trans hw).size)
        replace NA := hide (NA.out.later q0c)
        replace NB := hide (NB.out.later q0c)
        clear hWb hxb hbb hWc hbc hbx hec q0c hq xq GL
        go_wp2_with (go_at_call 14; refine (KE.out _ _ (Q0.out.trans (Later.ext _)) (HH.out _ (Later.ext _))).mono ?_; rintro _ wz ⟨rfl, xq⟩; obtain ⟨e, rfl⟩ := Later.mk_ex ((Later.ext _).trans xq); clear xq)
        go_ret
        exact ⟨rfl, FIN.out _ (Q0.out.trans (Later.ext _))⟩
    · have hsm : a * 2 ^ k.toNat ≤ 9223372036854775807 := by omega
      clear WB hbig
      go_enter Tryd.func6, Tryd.ntmps6
      go_wp2_with (first
        | (go_at_call 12; refine (GL.out.at_ _).mono ?_; rintro _ _ ⟨rfl, e, rfl⟩)
        | (go_at_call 27; with_reducible refine (NA.out.at_ _).mono ?_; rintro _ _ ⟨rfl, e, rfl⟩)
        | (go_at_call 27; with_reducible refine (NB.out.at_ _).mono ?_; rintro _ _ ⟨rfl, e, rfl⟩))
      go_at_call 26
      refine (BN.out _ _).mono ?_
      rintro _ wz ⟨q, rfl, hq, xq⟩
      obtain ⟨e, rfl⟩ := Later.mk_ex ((Later.ext _).trans xq)
      obtain ⟨Wb, hWb, hxb, hbb⟩ := box6 e.w (.int .i64 0) (.string ⟨#[]⟩) (.int .i64 0) (.int .i64 0) (.int .u64 0) (.slice none 0 0) 25
      obtain ⟨m0, m1, m2, m3, m4, m5⟩ := hbb.get6
      obtain ⟨n0, n1, n2, n3, n4, n5⟩ := hbb.free6
      obtain ⟨Wc, hWc⟩ : ∃ Wc, Wc = ((((((Wb.setCell ⟨e.w.heap.size, 0, none⟩ (.int .i64 6)).setCell ⟨e.w.heap.size, 1, none⟩ (.string ⟨#[]⟩)).setCell ⟨e.w.heap.size, 2, none⟩ (.int .i64 17)).setCell ⟨e.w.heap.size, 3, none⟩ (.int .i64 0)).setCell ⟨e.w.heap.size, 4, none⟩ (.int .u64 0)).setCell ⟨e.w.heap.size, 5, none⟩ (.slice (some ⟨q, 0, none⟩) 2 2)) := ⟨_, rfl⟩
      have hbc := hbb.store6 (.int .i64 6) (.string ⟨#[]⟩) (.int .i64 17) (.int .i64 0) (.int .u64 0) (.slice (some ⟨q, 0, none⟩) 2 2)
      rw [← hWc] at hbc
      have hbx : Ext e.w Wc := by rw [hWc]; exact (((((hxb.setCell (Nat.le_refl _) _).setCell (Nat.le_refl _) _).setCell (Nat.le_refl _) _).setCell (Nat.le_refl _) _).setCell (Nat.le_refl _) _).setCell (Nat.le_refl _) _
      obtain ⟨ec, hec⟩ := Later.mk_ex (Ext.refl Wc)
      have hVb := hWb.symm
      have hVc := hWc.symm.trans hec
      have q0c := (Later.ext e).trans hbx
      have Q0 := hide q0c
      obtain ⟨c0, c1, c2, c3, c4, c5⟩ := hbc.later6
      have HH := hide (show ∀ w', Ext Wc w' → RX w' w'.heap.size (xBin 17 (xN a) (xN k)) [.int .i64 6, .string ⟨#[]⟩, .int .i64 17, .int .i64 0, .int .u64 0, .slice (some ⟨q, 0, none⟩) 2 2] from fun w' hw => (hq.ext (hbx.trans hw) (Nat.le_refl _)).more (hbx.trans hw).size)
      replace NA := hide (NA.out.later q0c)
      replace NB := hide (NB.out.later q0c)
      clear hWb hxb hbb hWc hbc hbx hec q0c hq xq GL
      go_wp2_with (go_at_call 14; refine (KE.out _ _ (Q0.out.trans (Later.ext _)) (HH.out _ (Later.ext _))).mono ?_; rintro _ wz ⟨rfl, xq⟩; obtain ⟨e, rfl⟩ := Later.mk_ex ((Later.ext _).trans xq); clear xq)
      go_ret
      exact ⟨rfl, FIN.out _ (Q0.out.trans (Later.ext _))⟩

end Go.Proofs.YtonbgnaopkopoaaDoor
