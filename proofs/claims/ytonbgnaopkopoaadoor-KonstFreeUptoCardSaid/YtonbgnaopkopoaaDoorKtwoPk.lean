/-
  PACKAGE konst: WHAT TWO VALUES MAKE.
-/
import Derived.Lib.MinMax
import Derived.Laws.ShiftsVarLaws
import Derived.Test.YtonbgnaopkopoaaDoorKonePk
namespace Go.Proofs.YtonbgnaopkopoaaDoor
open Go Go.RowKit
set_option linter.all false
set_option linter.unusedVariables false
set_option linter.unusedSimpArgs false
set_option linter.unusedVariables false
set_option linter.unusedSimpArgs false
attribute [local go_sem] run_store_one

theorem mul_bd {a b : Int} (ha : 0 ≤ a) (ha' : a ≤ 2147483647) (hb : 0 ≤ b) (hb' : b ≤ 2147483647) : 0 ≤ a * b ∧ a * b ≤ 4611686014132420609 := by
  refine ⟨Int.mul_nonneg ha hb, ?_⟩
  have := Int.mul_le_mul ha' hb' hb (by decide : (0 : Int) ≤ 2147483647)
  simpa using this

theorem two14_any (a b : Int) (w : World) (ha : 0 ≤ a) (ha' : a ≤ 2147483647) (hb : 0 ≤ b) (hb' : b ≤ 2147483647) : Calls Tryd.prog 65 #[.int .i64 a, .int .i64 b] w fun e w' => e = .returned (.int .i64 (twoK 14 a b)) ∧ w' = w := by
  rw [show twoK 14 a b = a + b from rfl]
  go_enter Tryd.func65, Tryd.ntmps65
  go_wp2
  go_ret
  exact ⟨rfl, rfl⟩

theorem two15_any (a b : Int) (w : World) (ha : 0 ≤ a) (ha' : a ≤ 2147483647) (hb : 0 ≤ b) (hb' : b ≤ 2147483647) : Calls Tryd.prog 66 #[.int .i64 a, .int .i64 b] w fun e w' => e = .returned (.int .i64 (twoK 15 a b)) ∧ w' = w := by
  rw [show twoK 15 a b = a - b from rfl]
  go_enter Tryd.func66, Tryd.ntmps66
  go_wp2
  go_ret
  exact ⟨rfl, rfl⟩

theorem two16_any (a b : Int) (w : World) (ha : 0 ≤ a) (ha' : a ≤ 2147483647) (hb : 0 ≤ b) (hb' : b ≤ 2147483647) : Calls Tryd.prog 67 #[.int .i64 a, .int .i64 b] w fun e w' => e = .returned (.int .i64 (twoK 16 a b)) ∧ w' = w := by
  rw [show twoK 16 a b = a * b from rfl]
  obtain ⟨h1, h2⟩ := mul_bd ha ha' hb hb'
  go_enter Tryd.func67, Tryd.ntmps67
  go_wp2
  go_ret
  exact ⟨rfl, rfl⟩

theorem two19_any (a b : Int) (w : World) (ha : 0 ≤ a) (ha' : a ≤ 2147483647) (hb : 0 ≤ b) (hb' : b ≤ 2147483647) : Calls Tryd.prog 70 #[.int .i64 a, .int .i64 b] w fun e w' => e = .returned (.int .i64 (twoK 19 a b)) ∧ w' = w := by
  rw [show twoK 19 a b = bitK (a == b) from rfl]
  have K := hide (fun w => kbit_any (a == b) w)
  go_enter Tryd.func70, Tryd.ntmps70
  go_wp2_with (go_at_call 53; refine (K.out _).mono ?_; rintro _ _ ⟨rfl, rfl⟩)
  go_ret
  exact ⟨rfl, rfl⟩

theorem two20_any (a b : Int) (w : World) (ha : 0 ≤ a) (ha' : a ≤ 2147483647) (hb : 0 ≤ b) (hb' : b ≤ 2147483647) : Calls Tryd.prog 71 #[.int .i64 a, .int .i64 b] w fun e w' => e = .returned (.int .i64 (twoK 20 a b)) ∧ w' = w := by
  rw [show twoK 20 a b = bitK (a != b) from rfl]
  have K := hide (fun w => kbit_any (a != b) w)
  go_enter Tryd.func71, Tryd.ntmps71
  go_wp2_with (go_at_call 53; refine (K.out _).mono ?_; rintro _ _ ⟨rfl, rfl⟩)
  go_ret
  exact ⟨rfl, rfl⟩

theorem two21_any (a b : Int) (w : World) (ha : 0 ≤ a) (ha' : a ≤ 2147483647) (hb : 0 ≤ b) (hb' : b ≤ 2147483647) : Calls Tryd.prog 72 #[.int .i64 a, .int .i64 b] w fun e w' => e = .returned (.int .i64 (twoK 21 a b)) ∧ w' = w := by
  rw [show twoK 21 a b = bitK (decide (a < b)) from rfl]
  have K := hide (fun w => kbit_any (decide (a < b)) w)
  go_enter Tryd.func72, Tryd.ntmps72
  go_wp2_with (go_at_call 53; refine (K.out _).mono ?_; rintro _ _ ⟨rfl, rfl⟩)
  go_ret
  exact ⟨rfl, rfl⟩

theorem two22_any (a b : Int) (w : World) (ha : 0 ≤ a) (ha' : a ≤ 2147483647) (hb : 0 ≤ b) (hb' : b ≤ 2147483647) : Calls Tryd.prog 73 #[.int .i64 a, .int .i64 b] w fun e w' => e = .returned (.int .i64 (twoK 22 a b)) ∧ w' = w := by
  rw [show twoK 22 a b = bitK (decide (a ≤ b)) from rfl]
  have K := hide (fun w => kbit_any (decide (a ≤ b)) w)
  go_enter Tryd.func73, Tryd.ntmps73
  go_wp2_with (go_at_call 53; refine (K.out _).mono ?_; rintro _ _ ⟨rfl, rfl⟩)
  go_ret
  exact ⟨rfl, rfl⟩

theorem two23_any (a b : Int) (w : World) (ha : 0 ≤ a) (ha' : a ≤ 2147483647) (hb : 0 ≤ b) (hb' : b ≤ 2147483647) : Calls Tryd.prog 74 #[.int .i64 a, .int .i64 b] w fun e w' => e = .returned (.int .i64 (twoK 23 a b)) ∧ w' = w := by
  rw [show twoK 23 a b = bitK (decide (b < a)) from rfl]
  have K := hide (fun w => kbit_any (decide (b < a)) w)
  go_enter Tryd.func74, Tryd.ntmps74
  go_wp2_with (go_at_call 53; refine (K.out _).mono ?_; rintro _ _ ⟨rfl, rfl⟩)
  go_ret
  exact ⟨rfl, rfl⟩

theorem two24_any (a b : Int) (w : World) (ha : 0 ≤ a) (ha' : a ≤ 2147483647) (hb : 0 ≤ b) (hb' : b ≤ 2147483647) : Calls Tryd.prog 75 #[.int .i64 a, .int .i64 b] w fun e w' => e = .returned (.int .i64 (twoK 24 a b)) ∧ w' = w := by
  rw [show twoK 24 a b = bitK (decide (b ≤ a)) from rfl]
  have K := hide (fun w => kbit_any (decide (b ≤ a)) w)
  go_enter Tryd.func75, Tryd.ntmps75
  go_wp2_with (go_at_call 53; refine (K.out _).mono ?_; rintro _ _ ⟨rfl, rfl⟩)
  go_ret
  exact ⟨rfl, rfl⟩

theorem two25_any (a b : Int) (w : World) (ha : 0 ≤ a) (ha' : a ≤ 2147483647) (hb : 0 ≤ b) (hb' : b ≤ 2147483647) : Calls Tryd.prog 76 #[.int .i64 a, .int .i64 b] w fun e w' => e = .returned (.int .i64 (twoK 25 a b)) ∧ w' = w := by
  rw [show twoK 25 a b = bitK (a != 0 && b != 0) from rfl]
  have K := hide (fun b w => kbit_any b w)
  cases h1 : (a != 0) with
  | true =>
    cases h2 : (b != 0) with
    | true =>
      go_enter Tryd.func76, Tryd.ntmps76
      go_wp2_with (go_at_call 53; refine (K.out _ _).mono ?_; rintro _ _ ⟨rfl, rfl⟩)
      go_ret
      exact ⟨rfl, rfl⟩
    | false =>
      go_enter Tryd.func76, Tryd.ntmps76
      go_wp2_with (go_at_call 53; refine (K.out _ _).mono ?_; rintro _ _ ⟨rfl, rfl⟩)
      go_ret
      exact ⟨rfl, rfl⟩
  | false =>
    cases h2 : (b != 0) with
    | true =>
      go_enter Tryd.func76, Tryd.ntmps76
      go_wp2_with (go_at_call 53; refine (K.out _ _).mono ?_; rintro _ _ ⟨rfl, rfl⟩)
      go_ret
      exact ⟨rfl, rfl⟩
    | false =>
      go_enter Tryd.func76, Tryd.ntmps76
      go_wp2_with (go_at_call 53; refine (K.out _ _).mono ?_; rintro _ _ ⟨rfl, rfl⟩)
      go_ret
      exact ⟨rfl, rfl⟩

theorem two26_any (a b : Int) (w : World) (ha : 0 ≤ a) (ha' : a ≤ 2147483647) (hb : 0 ≤ b) (hb' : b ≤ 2147483647) : Calls Tryd.prog 77 #[.int .i64 a, .int .i64 b] w fun e w' => e = .returned (.int .i64 (twoK 26 a b)) ∧ w' = w := by
  rw [show twoK 26 a b = bitK (a != 0 || b != 0) from rfl]
  have K := hide (fun b w => kbit_any b w)
  cases h1 : (a != 0) with
  | true =>
    cases h2 : (b != 0) with
    | true =>
      go_enter Tryd.func77, Tryd.ntmps77
      go_wp2_with (go_at_call 53; refine (K.out _ _).mono ?_; rintro _ _ ⟨rfl, rfl⟩)
      go_ret
      exact ⟨rfl, rfl⟩
    | false =>
      go_enter Tryd.func77, Tryd.ntmps77
      go_wp2_with (go_at_call 53; refine (K.out _ _).mono ?_; rintro _ _ ⟨rfl, rfl⟩)
      go_ret
      exact ⟨rfl, rfl⟩
  | false =>
    cases h2 : (b != 0) with
    | true =>
      go_enter Tryd.func77, Tryd.ntmps77
      go_wp2_with (go_at_call 53; refine (K.out _ _).mono ?_; rintro _ _ ⟨rfl, rfl⟩)
      go_ret
      exact ⟨rfl, rfl⟩
    | false =>
      go_enter Tryd.func77, Tryd.ntmps77
      go_wp2_with (go_at_call 53; refine (K.out _ _).mono ?_; rintro _ _ ⟨rfl, rfl⟩)
      go_ret
      exact ⟨rfl, rfl⟩

theorem two18_any (a b : Int) (w : World) (ha : 0 ≤ a) (ha' : a ≤ 2147483647) (hb : 0 ≤ b) (hb' : b ≤ 2147483647) : Calls Tryd.prog 69 #[.int .i64 a, .int .i64 b] w fun e w' => e = .returned (.int .i64 (twoK 18 a b)) ∧ w' = w := by
  rw [show twoK 18 a b = a / 2 ^ (min b 63).toNat from rfl]
  have hm0 : 0 ≤ min b 63 := by omega
  have hm1 : min b 63 ≤ 63 := by omega
  go_enter Tryd.func69, Tryd.ntmps69
  go_wp2
  go_ret
  exact ⟨rfl, rfl⟩
theorem bl_spec : ∀ f x : Nat, x < 2 ^ f → x < 2 ^ Lib.bitLenAux f x ∧ (x ≠ 0 → 2 ^ Lib.bitLenAux f x ≤ 2 * x)
  | 0, x, h => by simp at h; subst h; simp [Lib.bitLenAux]
  | f + 1, x, h => by
    unfold Lib.bitLenAux
    by_cases hx : x = 0
    · rw [if_pos hx]; subst hx; simp
    · rw [if_neg hx]
      obtain ⟨h1, h2⟩ := bl_spec f (x / 2) (by rw [Nat.pow_succ] at h; omega)
      have e : 2 ^ (1 + Lib.bitLenAux f (x / 2)) = 2 * 2 ^ Lib.bitLenAux f (x / 2) := by rw [Nat.add_comm, Nat.pow_succ]; omega
      rw [e]
      refine ⟨by omega, fun _ => ?_⟩
      by_cases hh : x / 2 = 0
      · rw [hh] at h1 ⊢
        have : Lib.bitLenAux f 0 = 0 := by cases f <;> simp [Lib.bitLenAux]
        rw [this]
        omega
      · have := h2 hh; omega
theorem shl_over {a b : Int} (ha : 0 < a) (ha' : a ≤ 2147483647) (hb : 0 ≤ b) : 31 < (Lib.bitLen a.toNat : Int) + b ↔ 2147483647 < a * 2 ^ b.toNat := by
  obtain ⟨n, rfl⟩ := Int.eq_ofNat_of_zero_le (Int.le_of_lt ha)
  obtain ⟨k, rfl⟩ := Int.eq_ofNat_of_zero_le hb
  have hn : n < 2 ^ 64 := by have : (2 : Nat) ^ 64 = 18446744073709551616 := by decide
                             omega
  obtain ⟨h1, h2⟩ := bl_spec 64 n hn
  have h2 := h2 (by omega)
  simp only [Int.toNat_natCast]
  change 31 < ((Lib.bitLenAux 64 n : Nat) : Int) + (k : Int) ↔ _
  generalize Lib.bitLenAux 64 n = L at *
  have e : ((n : Int) * 2 ^ k) = ((n * 2 ^ k : Nat) : Int) := by push_cast; rfl
  rw [e]
  have e31 : (2 : Nat) ^ 31 = 2147483648 := by decide
  constructor
  · intro h
    have hL : 2 ^ 32 ≤ 2 ^ (L + k) := Nat.pow_le_pow_right (by decide) (by omega)
    rw [Nat.pow_add] at hL
    have h3 := Nat.mul_le_mul_right (2 ^ k) h2
    have e32 : (2 : Nat) ^ 32 = 4294967296 := by decide
    have h4 : 2 * n * 2 ^ k = 2 * (n * 2 ^ k) := by rw [Nat.mul_assoc]
    omega
  · intro h
    apply Decidable.byContradiction
    intro hc
    have hL : 2 ^ (L + k) ≤ 2 ^ 31 := Nat.pow_le_pow_right (by decide) (by omega)
    rw [Nat.pow_add] at hL
    have h3 : n * 2 ^ k < 2 ^ L * 2 ^ k := Nat.mul_lt_mul_of_pos_right h1 (Nat.pow_pos (by decide))
    omega
theorem bl_le {a : Int} (ha : 0 < a) (ha' : a ≤ 2147483647) : (Lib.bitLen a.toNat : Int) ≤ 31 := by
  have h := (shl_over (b := 0) ha ha' (by decide)).1
  simp at h
  omega
theorem two17_any (a b : Int) (w : World) (ha : 0 ≤ a) (ha' : a ≤ 2147483647) (hb : 0 ≤ b) (hb' : b ≤ 2147483647) : Calls Tryd.prog 68 #[.int .i64 a, .int .i64 b] w fun e w' => e = .returned (.int .i64 (twoK 17 a b)) ∧ w' = w := by
  rw [show twoK 17 a b = shiftK a b from rfl]
  by_cases h0 : a = 0
  · subst h0
    rw [show shiftK 0 b = 0 from rfl]
    have KL := hide True.intro
    go_enter Tryd.func68, Tryd.ntmps68
    go_wp2
    go_ret
    exact ⟨rfl, rfl⟩
  · have hs : shiftK a b = if 31 ≤ b ∨ 2147483647 < a * 2 ^ b.toNat then -1 else a * 2 ^ b.toNat := if_neg h0
    have h0' : ((a : Int) == 0) = false := by simpa using h0
    have hap : 0 < a := by omega
    have KL := hide (fun w => Tryd.bits_Len a w ha (by omega))
    have hov := shl_over hap ha' hb
    have hle := bl_le hap ha'
    have hL0 : (0 : Int) ≤ (Lib.bitLen a.toNat : Int) := by omega
    by_cases hb31 : 31 ≤ b
    · rw [if_pos (.inl hb31)] at hs
      rw [hs]
      clear hs hov h0
      go_enter Tryd.func68, Tryd.ntmps68
      go_wp2_with (go_at_call 88; refine (KL.out _).mono ?_; rintro _ _ ⟨rfl, rfl⟩)
      go_ret
      exact ⟨rfl, rfl⟩
    · by_cases hob : 31 < (Lib.bitLen a.toNat : Int) + b
      · rw [if_pos (.inr (hov.1 hob))] at hs
        rw [hs]
        clear hs hov h0
        go_enter Tryd.func68, Tryd.ntmps68
        go_wp2_with (go_at_call 88; refine (KL.out _).mono ?_; rintro _ _ ⟨rfl, rfl⟩)
        go_ret
        exact ⟨rfl, rfl⟩
      · have hno : ¬ 2147483647 < a * 2 ^ b.toNat := fun h => hob (hov.2 h)
        rw [if_neg (by intro h; rcases h with h | h; exact hb31 h; exact hno h)] at hs
        rw [hs]
        have hm0 : 0 ≤ a * 2 ^ b.toNat := Int.mul_nonneg ha (Int.pow_nonneg (by decide))
        have hm1 : a * 2 ^ b.toNat ≤ 2147483647 := by omega
        clear hs hov h0 hno
        go_enter Tryd.func68, Tryd.ntmps68
        go_wp2_with (go_at_call 88; refine (KL.out _).mono ?_; rintro _ _ ⟨rfl, rfl⟩)
        go_ret
        exact ⟨rfl, rfl⟩

theorem madeF_some {n : Int} (h : 14 ≤ n ∧ n ≤ 26) : ∃ f, madeF n = some f := by
  have : n = 14 ∨ n = 15 ∨ n = 16 ∨ n = 17 ∨ n = 18 ∨ n = 19 ∨ n = 20 ∨ n = 21 ∨ n = 22 ∨ n = 23 ∨ n = 24 ∨ n = 25 ∨ n = 26 := by omega
  rcases this with rfl | rfl | rfl | rfl | rfl | rfl | rfl | rfl | rfl | rfl | rfl | rfl | rfl <;> exact ⟨_, rfl⟩
theorem madeF_none {n : Int} (h : ¬ (14 ≤ n ∧ n ≤ 26)) : madeF n = none := by
  unfold madeF
  rw [if_neg (by omega)]
  rw [if_neg (by omega)]
  rw [if_neg (by omega)]
  rw [if_neg (by omega)]
  rw [if_neg (by omega)]
  rw [if_neg (by omega)]
  rw [if_neg (by omega)]
  rw [if_neg (by omega)]
  rw [if_neg (by omega)]
  rw [if_neg (by omega)]
  rw [if_neg (by omega)]
  rw [if_neg (by omega)]
  rw [if_neg (by omega)]
/-- WHAT A VALUE OF THE TABLE DOES. -/
theorem madeF_any {n : Int} {f : Nat} (h : madeF n = some f) (a b : Int) (w : World) (ha : 0 ≤ a) (ha' : a ≤ 2147483647) (hb : 0 ≤ b) (hb' : b ≤ 2147483647) : Calls Tryd.prog f #[.int .i64 a, .int .i64 b] w fun e w' => e = .returned (.int .i64 (twoK n a b)) ∧ w' = w := by
  by_cases hr : 14 ≤ n ∧ n ≤ 26
  · have : n = 14 ∨ n = 15 ∨ n = 16 ∨ n = 17 ∨ n = 18 ∨ n = 19 ∨ n = 20 ∨ n = 21 ∨ n = 22 ∨ n = 23 ∨ n = 24 ∨ n = 25 ∨ n = 26 := by omega
    rcases this with rfl | rfl | rfl | rfl | rfl | rfl | rfl | rfl | rfl | rfl | rfl | rfl | rfl
    · have h : some 65 = some f := h
      injection h with h
      subst h
      exact two14_any a b w ha ha' hb hb'
    · have h : some 66 = some f := h
      injection h with h
      subst h
      exact two15_any a b w ha ha' hb hb'
    · have h : some 67 = some f := h
      injection h with h
      subst h
      exact two16_any a b w ha ha' hb hb'
    · have h : some 68 = some f := h
      injection h with h
      subst h
      exact two17_any a b w ha ha' hb hb'
    · have h : some 69 = some f := h
      injection h with h
      subst h
      exact two18_any a b w ha ha' hb hb'
    · have h : some 70 = some f := h
      injection h with h
      subst h
      exact two19_any a b w ha ha' hb hb'
    · have h : some 71 = some f := h
      injection h with h
      subst h
      exact two20_any a b w ha ha' hb hb'
    · have h : some 72 = some f := h
      injection h with h
      subst h
      exact two21_any a b w ha ha' hb hb'
    · have h : some 73 = some f := h
      injection h with h
      subst h
      exact two22_any a b w ha ha' hb hb'
    · have h : some 74 = some f := h
      injection h with h
      subst h
      exact two23_any a b w ha ha' hb hb'
    · have h : some 75 = some f := h
      injection h with h
      subst h
      exact two24_any a b w ha ha' hb hb'
    · have h : some 76 = some f := h
      injection h with h
      subst h
      exact two25_any a b w ha ha' hb hb'
    · have h : some 77 = some f := h
      injection h with h
      subst h
      exact two26_any a b w ha ha' hb hb'
  · rw [madeF_none hr] at h; cases h
theorem madeF_enters {n : Int} {f : Nat} (h : madeF n = some f) : Enters Tryd.prog f := by
  by_cases hr : 14 ≤ n ∧ n ≤ 26
  · have : n = 14 ∨ n = 15 ∨ n = 16 ∨ n = 17 ∨ n = 18 ∨ n = 19 ∨ n = 20 ∨ n = 21 ∨ n = 22 ∨ n = 23 ∨ n = 24 ∨ n = 25 ∨ n = 26 := by omega
    rcases this with rfl | rfl | rfl | rfl | rfl | rfl | rfl | rfl | rfl | rfl | rfl | rfl | rfl
    · have h : some 65 = some f := h
      injection h with h
      subst h
      exact ⟨fun _ _ => by kernel_rfl⟩
    · have h : some 66 = some f := h
      injection h with h
      subst h
      exact ⟨fun _ _ => by kernel_rfl⟩
    · have h : some 67 = some f := h
      injection h with h
      subst h
      exact ⟨fun _ _ => by kernel_rfl⟩
    · have h : some 68 = some f := h
      injection h with h
      subst h
      exact ⟨fun _ _ => by kernel_rfl⟩
    · have h : some 69 = some f := h
      injection h with h
      subst h
      exact ⟨fun _ _ => by kernel_rfl⟩
    · have h : some 70 = some f := h
      injection h with h
      subst h
      exact ⟨fun _ _ => by kernel_rfl⟩
    · have h : some 71 = some f := h
      injection h with h
      subst h
      exact ⟨fun _ _ => by kernel_rfl⟩
    · have h : some 72 = some f := h
      injection h with h
      subst h
      exact ⟨fun _ _ => by kernel_rfl⟩
    · have h : some 73 = some f := h
      injection h with h
      subst h
      exact ⟨fun _ _ => by kernel_rfl⟩
    · have h : some 74 = some f := h
      injection h with h
      subst h
      exact ⟨fun _ _ => by kernel_rfl⟩
    · have h : some 75 = some f := h
      injection h with h
      subst h
      exact ⟨fun _ _ => by kernel_rfl⟩
    · have h : some 76 = some f := h
      injection h with h
      subst h
      exact ⟨fun _ _ => by kernel_rfl⟩
    · have h : some 77 = some f := h
      injection h with h
      subst h
      exact ⟨fun _ _ => by kernel_rfl⟩
  · rw [madeF_none hr] at h; cases h

end Go.Proofs.YtonbgnaopkopoaaDoor
