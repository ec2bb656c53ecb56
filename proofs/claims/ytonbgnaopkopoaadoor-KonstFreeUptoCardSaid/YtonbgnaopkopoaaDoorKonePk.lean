/-
  PACKAGE konst: ITS SMALL FUNCTIONS.
-/
import Derived.Laws.ShiftsVarLaws
import Derived.Lib.MinMax
import Derived.Test.YtonbgnaopkopoaaDoorEvalPk
import Derived.Test.YtonbgnaopkopoaaDoorMapPk
import Derived.Test.YtonbgnaopkopoaaDoorWordPk
import Derived.Test.YtonbgnaopkopoaaDoorShelfPk
namespace Go.Proofs.YtonbgnaopkopoaaDoor
open Go Go.RowKit
set_option linter.all false
set_option linter.unusedVariables false
set_option linter.unusedSimpArgs false
set_option linter.unusedVariables false
set_option linter.unusedSimpArgs false
attribute [local go_sem] run_store_one

theorem kbit_any (b : Bool) (w : World) : Calls Tryd.prog 53 #[.bool b] w fun e w' => e = .returned (.int .i64 (bitK b)) ∧ w' = w := by
  go_enter Tryd.func53, Tryd.ntmps53
  cases b
  · go_wp2
    go_ret
    exact ⟨rfl, rfl⟩
  · go_wp2
    go_ret
    exact ⟨rfl, rfl⟩
theorem kinside_any (z : Int) (w : World) : Calls Tryd.prog 41 #[.int .i64 z] w fun e w' => e = .returned (.bool (decide (insideK z))) ∧ w' = w := by
  by_cases h0 : 0 ≤ z
  · by_cases h1 : z ≤ 2147483647
    · rw [decide_eq_true (show insideK z from ⟨h0, h1⟩)]
      go_enter Tryd.func41, Tryd.ntmps41
      go_wp2
      go_ret
      exact ⟨rfl, rfl⟩
    · rw [decide_eq_false (fun h : insideK z => h1 h.2)]
      have h2 : decide (z ≤ 2147483647) = false := by simpa using h1
      clear h1
      go_enter Tryd.func41, Tryd.ntmps41
      go_wp2
      go_ret
      exact ⟨rfl, rfl⟩
  · rw [decide_eq_false (fun h : insideK z => h0 h.1)]
    have h2 : z < 0 := by omega
    clear h0
    go_enter Tryd.func41, Tryd.ntmps41
    go_wp2
    go_ret
    exact ⟨rfl, rfl⟩
theorem ktold_any (z : Int) (w : World) : Calls Tryd.prog 52 #[.int .i64 z] w fun e w' => e = .returned (.tuple #[.int .i64 (toldK z).1, .int .i64 (toldK z).2]) ∧ w' = w := by
  have K := hide (fun w => kinside_any z w)
  by_cases hz : insideK z
  · rw [show toldK z = (z, 0) from if_pos hz]
    rw [decide_eq_true hz] at K
    clear hz
    go_enter Tryd.func52, Tryd.ntmps52
    go_wp2_with (go_at_call 41; refine (K.out _).mono ?_; rintro _ _ ⟨rfl, rfl⟩)
    go_ret2
    exact ⟨rfl, rfl⟩
  · rw [show toldK z = (0, 62) from if_neg hz]
    rw [decide_eq_false hz] at K
    clear hz
    go_enter Tryd.func52, Tryd.ntmps52
    go_wp2_with (go_at_call 41; refine (K.out _).mono ?_; rintro _ _ ⟨rfl, rfl⟩)
    go_ret2
    exact ⟨rfl, rfl⟩

/-- A function of the program's, as a value. -/
def fnV (f : Nat) : Value := .func (.func f) #[] #[]
theorem isInt (n : Int) : MapKept.IsKey (.int .i64) (.int .i64 n) := rfl
def madeF (n : Int) : Option Nat := if n = 14 then some 65 else if n = 15 then some 66 else if n = 16 then some 67 else if n = 17 then some 68 else if n = 18 then some 69 else if n = 19 then some 70 else if n = 20 then some 71 else if n = 21 then some 72 else if n = 22 then some 73 else if n = 23 then some 74 else if n = 24 then some 75 else if n = 25 then some 76 else if n = 26 then some 77 else none
def madeV (n : Int) : Value := match madeF n with | some f => fnV f | none => .nilFunc
noncomputable def madeL : List (Value × Value) := putV (putV (putV (putV (putV (putV (putV (putV (putV (putV (putV (putV (putV [] (.int .i64 14) (fnV 65)) (.int .i64 15) (fnV 66)) (.int .i64 16) (fnV 67)) (.int .i64 17) (fnV 68)) (.int .i64 18) (fnV 69)) (.int .i64 19) (fnV 70)) (.int .i64 20) (fnV 71)) (.int .i64 21) (fnV 72)) (.int .i64 22) (fnV 73)) (.int .i64 23) (fnV 74)) (.int .i64 24) (fnV 75)) (.int .i64 25) (fnV 76)) (.int .i64 26) (fnV 77)
theorem made_get (n : Int) : (getV madeL (.int .i64 n)).getD .nilFunc = madeV n := by
  unfold madeL
  simp only [getV_put, Value.int.injEq, true_and]
  unfold madeV madeF
  by_cases h26 : n = 26
  · subst h26
    simp [getV]
  rw [if_neg (fun e : (26 : Int) = n => h26 e.symm)]
  by_cases h25 : n = 25
  · subst h25
    simp [getV]
  rw [if_neg (fun e : (25 : Int) = n => h25 e.symm)]
  by_cases h24 : n = 24
  · subst h24
    simp [getV]
  rw [if_neg (fun e : (24 : Int) = n => h24 e.symm)]
  by_cases h23 : n = 23
  · subst h23
    simp [getV]
  rw [if_neg (fun e : (23 : Int) = n => h23 e.symm)]
  by_cases h22 : n = 22
  · subst h22
    simp [getV]
  rw [if_neg (fun e : (22 : Int) = n => h22 e.symm)]
  by_cases h21 : n = 21
  · subst h21
    simp [getV]
  rw [if_neg (fun e : (21 : Int) = n => h21 e.symm)]
  by_cases h20 : n = 20
  · subst h20
    simp [getV]
  rw [if_neg (fun e : (20 : Int) = n => h20 e.symm)]
  by_cases h19 : n = 19
  · subst h19
    simp [getV]
  rw [if_neg (fun e : (19 : Int) = n => h19 e.symm)]
  by_cases h18 : n = 18
  · subst h18
    simp [getV]
  rw [if_neg (fun e : (18 : Int) = n => h18 e.symm)]
  by_cases h17 : n = 17
  · subst h17
    simp [getV]
  rw [if_neg (fun e : (17 : Int) = n => h17 e.symm)]
  by_cases h16 : n = 16
  · subst h16
    simp [getV]
  rw [if_neg (fun e : (16 : Int) = n => h16 e.symm)]
  by_cases h15 : n = 15
  · subst h15
    simp [getV]
  rw [if_neg (fun e : (15 : Int) = n => h15 e.symm)]
  by_cases h14 : n = 14
  · subst h14
    simp [getV]
  rw [if_neg (fun e : (14 : Int) = n => h14 e.symm)]
  simp [getV, h14, h15, h16, h17, h18, h19, h20, h21, h22, h23, h24, h25, h26]

set_option maxRecDepth 20000 in
set_option maxHeartbeats 2000000 in
theorem made_any (n : Int) (w : World) : Calls Tryd.prog 51 #[.int .i64 n] w fun e w' => e = .returned (madeV n) ∧ Ext w w' := by
  have ut : Tryd.prog.underlying 83 = some (.map 3 73) := Tryd.underlying83
  have uk : Tryd.prog.underlying 3 = some (.int .i64) := Tryd.underlying3
  have hz : ∀ w : World, (zeroValue 73).run Tryd.prog w = .ok .nilFunc w := fun _ => by kernel_rfl
  obtain ⟨W0, hW0⟩ : ∃ W0, W0 = w.alloc (.map #[] 0) := ⟨_, rfl⟩
  have m0 : MV W0 w.heap.size [] := by rw [hW0]; exact MV.new w
  have k0 : ∀ p, p ∈ ([] : List (Value × Value)) → MapKept.IsKey (.int .i64) p.1 := fun p hp => by cases hp
  have x0 : Below w.heap.size w W0 := by rw [hW0]; exact Ext.new _ _
  have s0 : w.heap.size ≤ W0.heap.size := x0.size
  obtain ⟨o1, u1, m1⟩ := m0.update ut uk (isInt 14) k0 (fnV 65)
  have k1 := keys_put (v := fnV 65) k0 (isInt 14)
  obtain ⟨W1, hW1⟩ : ∃ W1, W1 = setO W0 w.heap.size o1 := ⟨_, rfl⟩
  rw [← hW1] at u1 m1
  have x1 : Below w.heap.size w W1 := by rw [hW1]; exact x0.trans (setO_below (Nat.le_refl _) x0.size)
  obtain ⟨o2, u2, m2⟩ := m1.update ut uk (isInt 15) k1 (fnV 66)
  have k2 := keys_put (v := fnV 66) k1 (isInt 15)
  obtain ⟨W2, hW2⟩ : ∃ W2, W2 = setO W1 w.heap.size o2 := ⟨_, rfl⟩
  rw [← hW2] at u2 m2
  have x2 : Below w.heap.size w W2 := by rw [hW2]; exact x1.trans (setO_below (Nat.le_refl _) x1.size)
  obtain ⟨o3, u3, m3⟩ := m2.update ut uk (isInt 16) k2 (fnV 67)
  have k3 := keys_put (v := fnV 67) k2 (isInt 16)
  obtain ⟨W3, hW3⟩ : ∃ W3, W3 = setO W2 w.heap.size o3 := ⟨_, rfl⟩
  rw [← hW3] at u3 m3
  have x3 : Below w.heap.size w W3 := by rw [hW3]; exact x2.trans (setO_below (Nat.le_refl _) x2.size)
  obtain ⟨o4, u4, m4⟩ := m3.update ut uk (isInt 17) k3 (fnV 68)
  have k4 := keys_put (v := fnV 68) k3 (isInt 17)
  obtain ⟨W4, hW4⟩ : ∃ W4, W4 = setO W3 w.heap.size o4 := ⟨_, rfl⟩
  rw [← hW4] at u4 m4
  have x4 : Below w.heap.size w W4 := by rw [hW4]; exact x3.trans (setO_below (Nat.le_refl _) x3.size)
  obtain ⟨o5, u5, m5⟩ := m4.update ut uk (isInt 18) k4 (fnV 69)
  have k5 := keys_put (v := fnV 69) k4 (isInt 18)
  obtain ⟨W5, hW5⟩ : ∃ W5, W5 = setO W4 w.heap.size o5 := ⟨_, rfl⟩
  rw [← hW5] at u5 m5
  have x5 : Below w.heap.size w W5 := by rw [hW5]; exact x4.trans (setO_below (Nat.le_refl _) x4.size)
  obtain ⟨o6, u6, m6⟩ := m5.update ut uk (isInt 19) k5 (fnV 70)
  have k6 := keys_put (v := fnV 70) k5 (isInt 19)
  obtain ⟨W6, hW6⟩ : ∃ W6, W6 = setO W5 w.heap.size o6 := ⟨_, rfl⟩
  rw [← hW6] at u6 m6
  have x6 : Below w.heap.size w W6 := by rw [hW6]; exact x5.trans (setO_below (Nat.le_refl _) x5.size)
  obtain ⟨o7, u7, m7⟩ := m6.update ut uk (isInt 20) k6 (fnV 71)
  have k7 := keys_put (v := fnV 71) k6 (isInt 20)
  obtain ⟨W7, hW7⟩ : ∃ W7, W7 = setO W6 w.heap.size o7 := ⟨_, rfl⟩
  rw [← hW7] at u7 m7
  have x7 : Below w.heap.size w W7 := by rw [hW7]; exact x6.trans (setO_below (Nat.le_refl _) x6.size)
  obtain ⟨o8, u8, m8⟩ := m7.update ut uk (isInt 21) k7 (fnV 72)
  have k8 := keys_put (v := fnV 72) k7 (isInt 21)
  obtain ⟨W8, hW8⟩ : ∃ W8, W8 = setO W7 w.heap.size o8 := ⟨_, rfl⟩
  rw [← hW8] at u8 m8
  have x8 : Below w.heap.size w W8 := by rw [hW8]; exact x7.trans (setO_below (Nat.le_refl _) x7.size)
  obtain ⟨o9, u9, m9⟩ := m8.update ut uk (isInt 22) k8 (fnV 73)
  have k9 := keys_put (v := fnV 73) k8 (isInt 22)
  obtain ⟨W9, hW9⟩ : ∃ W9, W9 = setO W8 w.heap.size o9 := ⟨_, rfl⟩
  rw [← hW9] at u9 m9
  have x9 : Below w.heap.size w W9 := by rw [hW9]; exact x8.trans (setO_below (Nat.le_refl _) x8.size)
  obtain ⟨o10, u10, m10⟩ := m9.update ut uk (isInt 23) k9 (fnV 74)
  have k10 := keys_put (v := fnV 74) k9 (isInt 23)
  obtain ⟨W10, hW10⟩ : ∃ W10, W10 = setO W9 w.heap.size o10 := ⟨_, rfl⟩
  rw [← hW10] at u10 m10
  have x10 : Below w.heap.size w W10 := by rw [hW10]; exact x9.trans (setO_below (Nat.le_refl _) x9.size)
  obtain ⟨o11, u11, m11⟩ := m10.update ut uk (isInt 24) k10 (fnV 75)
  have k11 := keys_put (v := fnV 75) k10 (isInt 24)
  obtain ⟨W11, hW11⟩ : ∃ W11, W11 = setO W10 w.heap.size o11 := ⟨_, rfl⟩
  rw [← hW11] at u11 m11
  have x11 : Below w.heap.size w W11 := by rw [hW11]; exact x10.trans (setO_below (Nat.le_refl _) x10.size)
  obtain ⟨o12, u12, m12⟩ := m11.update ut uk (isInt 25) k11 (fnV 76)
  have k12 := keys_put (v := fnV 76) k11 (isInt 25)
  obtain ⟨W12, hW12⟩ : ∃ W12, W12 = setO W11 w.heap.size o12 := ⟨_, rfl⟩
  rw [← hW12] at u12 m12
  have x12 : Below w.heap.size w W12 := by rw [hW12]; exact x11.trans (setO_below (Nat.le_refl _) x11.size)
  obtain ⟨o13, u13, m13⟩ := m12.update ut uk (isInt 26) k12 (fnV 77)
  have k13 := keys_put (v := fnV 77) k12 (isInt 26)
  obtain ⟨W13, hW13⟩ : ∃ W13, W13 = setO W12 w.heap.size o13 := ⟨_, rfl⟩
  rw [← hW13] at u13 m13
  have x13 : Below w.heap.size w W13 := by rw [hW13]; exact x12.trans (setO_below (Nat.le_refl _) x12.size)
  have hl := (show MV W13 w.heap.size madeL from m13).lookup ut uk (isInt n) (show ∀ p, p ∈ madeL → MapKept.IsKey (.int .i64) p.1 from k13) (hz _) false
  rw [made_get] at hl
  simp only [Bool.false_eq_true, if_false] at hl
  have hV0 := hW0.symm
  have X13 := hide x13
  unfold fnV at u1 u2 u3 u4 u5 u6 u7 u8 u9 u10 u11 u12 u13
  clear hz ut uk m0 k0 x0 m1 k1 x1 m2 k2 x2 m3 k3 x3 m4 k4 x4 m5 k5 x5 m6 k6 x6 m7 k7 x7 m8 k8 x8 m9 k9 x9 m10 k10 x10 m11 k11 x11 m12 k12 x12 m13 k13 x13 hW0 hW1 hW2 hW3 hW4 hW5 hW6 hW7 hW8 hW9 hW10 hW11 hW12 hW13 s0
  obtain ⟨v, hv⟩ : ∃ v, v = madeV n := ⟨_, rfl⟩
  rw [← hv] at hl ⊢
  clear hv
  have hmm := @run_makeMap Tryd.prog
  go_enter Tryd.func51, Tryd.ntmps51
  go_wp2
  go_ret
  exact ⟨rfl, X13.out⟩

end Go.Proofs.YtonbgnaopkopoaaDoor
