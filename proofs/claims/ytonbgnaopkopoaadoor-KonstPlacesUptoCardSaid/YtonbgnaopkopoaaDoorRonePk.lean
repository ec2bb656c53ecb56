/-
  THE DOCUMENT's ANSWER OF CHAPTER 06: ITS SMALL FUNCTIONS.
-/
import Derived.Test.YtonbgnaopkopoaaDoorKevPk
namespace Go.Proofs.YtonbgnaopkopoaaDoor
open Go Go.RowKit
set_option linter.all false
set_option linter.unusedVariables false
set_option linter.unusedSimpArgs false
set_option linter.unusedVariables false
set_option linter.unusedSimpArgs false
attribute [local go_sem] run_store_one

theorem rbit_any (b : Bool) (w : World) : Calls Tryd.prog 57 #[.bool b] w fun e w' => e = .returned (.int .i64 (bitK b)) ∧ w' = w := by
  go_enter Tryd.func57, Tryd.ntmps57
  cases b
  · go_wp2
    go_ret
    exact ⟨rfl, rfl⟩
  · go_wp2
    go_ret
    exact ⟨rfl, rfl⟩
theorem rwithin_any (z : Int) (w : World) : Calls Tryd.prog 56 #[.int .i64 z] w fun e w' => e = .returned (pairV (toldK z)) ∧ w' = w := by
  by_cases h0 : z < 0
  · rw [show toldK z = (0, 62) from if_neg (fun h : insideK z => by have := h.1; omega)]
    unfold pairV
    go_enter Tryd.func56, Tryd.ntmps56
    go_wp2
    go_ret2
    exact ⟨rfl, rfl⟩
  · by_cases h1 : 2147483647 < z
    · rw [show toldK z = (0, 62) from if_neg (fun h : insideK z => by have := h.2; omega)]
      have h0' : decide (z < 0) = false := by simpa using h0
      unfold pairV
      clear h0
      go_enter Tryd.func56, Tryd.ntmps56
      go_wp2
      go_ret2
      exact ⟨rfl, rfl⟩
    · rw [show toldK z = (z, 0) from if_pos ⟨by omega, by omega⟩]
      have h0' : decide (z < 0) = false := by simpa using h0
      have h1' : decide (2147483647 < z) = false := by simpa using h1
      unfold pairV
      clear h0 h1
      go_enter Tryd.func56, Tryd.ntmps56
      go_wp2
      go_ret2
      exact ⟨rfl, rfl⟩

theorem told_over {z : Int} (h : 2147483647 < z) : toldK z = (0, 62) := if_neg (fun h' : insideK z => by have := h'.2; omega)
theorem told_shift_over {a b : Int} (ha : 0 < a) (h : 2147483647 < a * 2 ^ b.toNat) : toldK (shiftK a b) = (0, 62) := by
  unfold shiftK
  rw [if_neg (by omega), if_pos (.inr h)]
  rfl
theorem told_shift_fits {a b : Int} (ha : 0 < a) (hb : 0 ≤ b) : toldK (shiftK a b) = toldK (a * 2 ^ b.toNat) := by
  by_cases h : 2147483647 < a * 2 ^ b.toNat
  · rw [told_shift_over ha h, told_over h]
  · have hb31 : ¬ 31 ≤ b := fun h31 => by
      apply h
      obtain ⟨k, rfl⟩ := Int.eq_ofNat_of_zero_le hb
      obtain ⟨n, rfl⟩ := Int.eq_ofNat_of_zero_le (Int.le_of_lt ha)
      simp only [Int.toNat_natCast]
      have h1 : 2 ^ 31 ≤ 2 ^ k := Nat.pow_le_pow_right (by decide) (by omega)
      have h2 : 1 * 2 ^ k ≤ n * 2 ^ k := Nat.mul_le_mul_right _ (by omega)
      have h3 : ((n : Int) * 2 ^ k) = ((n * 2 ^ k : Nat) : Int) := by push_cast; rfl
      have h4 : (2 : Nat) ^ 31 = 2147483648 := by decide
      rw [h3]; omega
    unfold shiftK
    rw [if_neg (by omega), if_neg (fun h' => h'.elim hb31 h)]
theorem shift_mono {a : Int} {k : Nat} {b : Int} (ha : 0 ≤ a) (h : (k : Int) ≤ b) : a * 2 ^ k ≤ a * 2 ^ b.toNat := by
  refine Int.mul_le_mul_of_nonneg_left ?_ ha
  have h1 : 2 ^ k ≤ 2 ^ b.toNat := Nat.pow_le_pow_right (by decide) (by omega)
  exact_mod_cast h1

set_option maxRecDepth 20000 in
set_option maxHeartbeats 1000000 in
theorem rtimes_any (a b : Int) (w : World) (ha : 0 ≤ a) (ha' : a ≤ 2147483647) (hb : 0 ≤ b) (hb' : b ≤ 2147483647) :
    Calls Tryd.prog 84 #[.int .i64 a, .int .i64 b] w fun e w' => ∃ v, e = .returned (.int .i64 v) ∧ toldK v = toldK (shiftK a b) ∧ w' = w := by
  go_enter Tryd.func84, Tryd.ntmps84
  go_wp2
  go_loop [5, 6] (fun v i => ∃ (k : Nat) (z : Int), (k : Int) ≤ b ∧ i = .int .i64 k ∧ v = .int .i64 z ∧ z = a * 2 ^ k ∧ 0 ≤ z ∧ z ≤ 4294967294) (fun _ i => (b - intOf i).toNat)
  case atStart => exact ⟨0, a, by omega, rfl, rfl, by simp, ha, by omega⟩
  case round =>
    obtain ⟨k, z, hk, rfl, rfl, hz, hz0, hz1⟩ := hrel
    have HZ := hide hz
    clear hz
    by_cases hlt : (k : Int) < b
    · by_cases hp : 0 < z
      · by_cases hm : z ≤ 2147483647
        · go_wp2
          go_round
          case rel => exact ⟨k + 1, 2 * z, by omega, by go_num, by go_num, by rw [HZ.out, Int.pow_succ, Int.mul_comm 2, Int.mul_assoc], by omega, by omega⟩
          case measure => simp [intOf]; omega
        · have hm' : decide (z ≤ 2147483647) = false := by simpa using hm
          go_wp2
          go_ret
          refine ⟨z, rfl, ?_, rfl⟩
          have hap : 0 < a := by
            apply Decidable.byContradiction
            intro h
            have : a = 0 := by omega
            rw [HZ.out, this] at hp
            simp at hp
          have h1 := shift_mono (k := k) ha hk
          rw [← HZ.out] at h1
          rw [told_over (by omega), told_shift_over hap (by omega)]
      · have hp' : decide (0 < z) = false := by simpa using hp
        go_wp2
        go_ret
        refine ⟨z, rfl, ?_, rfl⟩
        have hz00 : z = 0 := by omega
        have ha0 : a = 0 := by
          have := HZ.out
          rw [hz00] at this
          rcases Int.mul_eq_zero.1 this.symm with h | h
          · exact h
          · exact absurd h (by have : (0 : Int) < 2 ^ k := Int.pow_pos (by decide); omega)
        rw [hz00, ha0]
        rfl
    · have hl' : decide ((k : Int) < b) = false := by simpa using hlt
      have hkb : b.toNat = k := by omega
      go_wp2
      go_ret
      refine ⟨z, rfl, ?_, rfl⟩
      by_cases ha0 : a = 0
      · have := HZ.out
        rw [this, ha0]
        simp [shiftK]
      · rw [told_shift_fits (by omega) hb, hkb, ← HZ.out]
set_option maxRecDepth 20000 in
set_option maxHeartbeats 1000000 in
theorem rhalved_any (a b : Int) (w : World) (ha : 0 ≤ a) (ha' : a ≤ 2147483647) (hb : 0 ≤ b) (hb' : b ≤ 2147483647) :
    Calls Tryd.prog 85 #[.int .i64 a, .int .i64 b] w fun e w' => e = .returned (.int .i64 (a / 2 ^ (min b 63).toNat)) ∧ w' = w := by
  have hfin : ∀ k : Nat, (k : Int) ≤ b → (a / 2 ^ k = 0 ∨ b = k) → a / 2 ^ k = a / 2 ^ (min b 63).toNat := fun k hk h => by
    have hbig : ∀ j : Nat, 31 ≤ j → a / 2 ^ j = 0 := fun j hj => by
      refine Int.ediv_eq_zero_of_lt ha ?_
      have h1 : 2 ^ 31 ≤ 2 ^ j := Nat.pow_le_pow_right (by decide) hj
      have h2 : (2 : Nat) ^ 31 = 2147483648 := by decide
      have h3 : ((2 : Int) ^ j) = ((2 ^ j : Nat) : Int) := by push_cast; rfl
      rw [h3]; omega
    rcases h with h | h
    · rw [h]
      by_cases h31 : 31 ≤ (min b 63).toNat
      · rw [hbig _ h31]
      · have hle : k ≤ (min b 63).toNat := by omega
        have h2 : (2 : Int) ^ k ≤ 2 ^ (min b 63).toNat := by
          have := Nat.pow_le_pow_right (show 0 < 2 by decide) hle
          exact_mod_cast this
        have hpos : (0 : Int) < 2 ^ k := Int.pow_pos (by decide)
        have hlt : a < 2 ^ k := by
          have := Int.lt_mul_of_ediv_lt hpos (show a / 2 ^ k < 1 by omega)
          omega
        exact (Int.ediv_eq_zero_of_lt ha (by omega)).symm
    · by_cases h63 : b ≤ 63
      · rw [show (min b 63).toNat = k by omega]
      · rw [hbig k (by omega), hbig _ (by omega)]
  have HF := hide hfin
  clear hfin
  go_enter Tryd.func85, Tryd.ntmps85
  go_wp2
  go_loop [5, 6] (fun v i => ∃ (k : Nat) (z : Int), (k : Int) ≤ b ∧ i = .int .i64 k ∧ v = .int .i64 z ∧ z = a / 2 ^ k ∧ 0 ≤ z ∧ z ≤ 2147483647) (fun _ i => (b - intOf i).toNat)
  case atStart => exact ⟨0, a, by omega, rfl, rfl, by simp, ha, ha'⟩
  case round =>
    obtain ⟨k, z, hk, rfl, rfl, hz, hz0, hz1⟩ := hrel
    have HZ := hide hz
    clear hz
    by_cases hlt : (k : Int) < b
    · by_cases hp : 0 < z
      · go_wp2
        go_round
        case rel => exact ⟨k + 1, z / 2, by omega, by go_num, by go_num, by rw [HZ.out, Int.pow_succ, Int.ediv_ediv_of_nonneg (Int.pow_nonneg (by decide))], by omega, by omega⟩
        case measure => simp [intOf]; omega
      · have hp' : decide (0 < z) = false := by simpa using hp
        go_wp2
        go_ret
        have hz00 : z = 0 := by omega
        exact ⟨congrArg (fun q => Ending.returned (Value.int .i64 q)) (by rw [HZ.out]; exact HF.out k hk (.inl (by rw [← HZ.out]; exact hz00))), rfl⟩
    · have hl' : decide ((k : Int) < b) = false := by simpa using hlt
      go_wp2
      go_ret
      exact ⟨congrArg (fun q => Ending.returned (Value.int .i64 q)) (by rw [HZ.out]; exact HF.out k hk (.inr (by omega))), rfl⟩

/-- WHAT TWO VALUES MAKE, in the document's words: told, it is the same. -/
theorem rtwo_any (n a b : Int) (w : World) (hn : 14 ≤ n ∧ n ≤ 26) (ha : 0 ≤ a) (ha' : a ≤ 2147483647) (hb : 0 ≤ b) (hb' : b ≤ 2147483647) :
    Calls Tryd.prog 58 #[.int .i64 n, .int .i64 a, .int .i64 b] w fun e w' => ∃ v, e = .returned (.int .i64 v) ∧ toldK v = toldK (twoK n a b) ∧ w' = w := by
  have KB := hide (fun b w => rbit_any b w)
  have KT := hide (rtimes_any a b w ha ha' hb hb')
  have KH := hide (rhalved_any a b w ha ha' hb hb')
  obtain ⟨h1, h2⟩ := mul_bd ha ha' hb hb'
  have : n = 14 ∨ n = 15 ∨ n = 16 ∨ n = 17 ∨ n = 18 ∨ n = 19 ∨ n = 20 ∨ n = 21 ∨ n = 22 ∨ n = 23 ∨ n = 24 ∨ n = 25 ∨ n = 26 := by omega
  clear hn
  rcases this with rfl | rfl | rfl | rfl | rfl | rfl | rfl | rfl | rfl | rfl | rfl | rfl | rfl
  · go_enter Tryd.func58, Tryd.ntmps58
    go_wp2
    go_ret
    exact ⟨_, rfl, rfl, rfl⟩
  · go_enter Tryd.func58, Tryd.ntmps58
    go_wp2
    go_ret
    exact ⟨_, rfl, rfl, rfl⟩
  · go_enter Tryd.func58, Tryd.ntmps58
    go_wp2
    go_ret
    exact ⟨_, rfl, rfl, rfl⟩
  · go_enter Tryd.func58, Tryd.ntmps58
    go_wp2_with fail
    refine KT.out.mono ?_
    rintro _ _ ⟨v, rfl, hv, rfl⟩
    have HV := hide hv
    clear hv
    go_wp2_with fail
    go_ret
    exact ⟨_, rfl, HV.out, rfl⟩
  · go_enter Tryd.func58, Tryd.ntmps58
    go_wp2_with fail
    refine KH.out.mono ?_
    rintro _ _ ⟨rfl, rfl⟩
    go_wp2_with fail
    go_ret
    exact ⟨_, rfl, rfl, rfl⟩
  · go_enter Tryd.func58, Tryd.ntmps58
    go_wp2_with (go_at_call 57; refine (KB.out _ _).mono ?_; rintro _ _ ⟨rfl, rfl⟩)
    go_ret
    exact ⟨_, rfl, rfl, rfl⟩
  · go_enter Tryd.func58, Tryd.ntmps58
    go_wp2_with (go_at_call 57; refine (KB.out _ _).mono ?_; rintro _ _ ⟨rfl, rfl⟩)
    go_ret
    exact ⟨_, rfl, rfl, rfl⟩
  · go_enter Tryd.func58, Tryd.ntmps58
    go_wp2_with (go_at_call 57; refine (KB.out _ _).mono ?_; rintro _ _ ⟨rfl, rfl⟩)
    go_ret
    exact ⟨_, rfl, rfl, rfl⟩
  · go_enter Tryd.func58, Tryd.ntmps58
    go_wp2_with (go_at_call 57; refine (KB.out _ _).mono ?_; rintro _ _ ⟨rfl, rfl⟩)
    go_ret
    exact ⟨_, rfl, rfl, rfl⟩
  · go_enter Tryd.func58, Tryd.ntmps58
    go_wp2_with (go_at_call 57; refine (KB.out _ _).mono ?_; rintro _ _ ⟨rfl, rfl⟩)
    go_ret
    exact ⟨_, rfl, rfl, rfl⟩
  · go_enter Tryd.func58, Tryd.ntmps58
    go_wp2_with (go_at_call 57; refine (KB.out _ _).mono ?_; rintro _ _ ⟨rfl, rfl⟩)
    go_ret
    exact ⟨_, rfl, rfl, rfl⟩
  · rw [show twoK 25 a b = bitK (a != 0 && b != 0) from rfl]
    cases h3 : (a != 0) <;> cases h4 : (b != 0)
    all_goals
      go_enter Tryd.func58, Tryd.ntmps58
      go_wp2_with (go_at_call 57; refine (KB.out _ _).mono ?_; rintro _ _ ⟨rfl, rfl⟩)
      go_ret
      exact ⟨_, rfl, rfl, rfl⟩
  · rw [show twoK 26 a b = bitK (a != 0 || b != 0) from rfl]
    cases h3 : (a != 0) <;> cases h4 : (b != 0)
    all_goals
      go_enter Tryd.func58, Tryd.ntmps58
      go_wp2_with (go_at_call 57; refine (KB.out _ _).mono ?_; rintro _ _ ⟨rfl, rfl⟩)
      go_ret
      exact ⟨_, rfl, rfl, rfl⟩

end Go.Proofs.YtonbgnaopkopoaaDoor

/-
  THE DOCUMENT's ANSWER OF CHAPTER 06: Lookup, eval.
-/
namespace Go.Proofs.YtonbgnaopkopoaaDoor
open Go Go.RowKit
set_option linter.all false
set_option linter.unusedVariables false
set_option linter.unusedSimpArgs false
set_option linter.unusedVariables false
set_option linter.unusedSimpArgs false
attribute [local go_sem] run_store_one

set_option maxRecDepth 20000 in
set_option maxHeartbeats 1000000 in
theorem rlookup_any (B : Nat) (env : List (ByteArray × Int)) (s : ByteArray) (w : World) (ve : Value) (hS : Sl RNm w B 2 env ve) (hB : B ≤ w.heap.size) (hln : env.length ≤ 1000000000) :
    Calls Tryd.prog 17 #[ve, .string s] w fun e w' => e = .returned (.tuple #[.int .i64 ((lookE env s).getD 0), .bool (lookE env s).isSome]) ∧ w' = w := by
  obtain ⟨a, cap, rfl, hcap, hrow⟩ := hS
  clear hcap
  go_enter Tryd.func17, Tryd.ntmps17
  go_wp2_with fail
  go_loopw [6] (fun i wr => ∃ k : Nat, k ≤ env.length ∧ i = .int .i64 ((k : Int) - 1) ∧ lookE env s = lookE (env.take k) s ∧ wr = w) (fun i _ => (intOf i + 1).toNat)
  case atStart => exact ⟨env.length, Nat.le_refl _, rfl, by rw [List.take_length], rfl⟩
  case round =>
    obtain ⟨k, hk, hi, hlk, rfl⟩ := hrel
    rcases k with _ | k
    · rw [show (((0 : Nat) : Int) - 1) = -1 from rfl] at hi
      subst hi
      have HLK := hide hlk
      clear hlk
      go_wp2_with fail
      go_ret2
      exact ⟨by rw [HLK.out]; rfl, rfl⟩
    · rw [show (((k + 1 : Nat) : Int) - 1) = (k : Int) by omega] at hi
      subst hi
      have hlt : k < env.length := by omega
      obtain ⟨b, o, v0, v1, rfl, hbB, hR, hC, o0, o1⟩ := hrow.open2 hlt
      simp only [RNm, List.cons.injEq, and_true] at hR
      obtain ⟨rfl, rfl⟩ := hR
      obtain ⟨d0, d1⟩ := hC.get2
      have hst := hide (hlk.trans (lookE_take hlt s))
      clear hC hrow hlk
      by_cases he : env[k].1 = s
      · have hst2 := hide (hst.out.trans (if_pos he))
        clear hst
        generalize env[k] = q at *
        obtain ⟨qn, qv⟩ := q
        simp only at he d0 d1
        subst he
        go_wp2_with fail
        go_ret2
        exact ⟨by rw [hst2.out]; rfl, rfl⟩
      · have hst2 := hide (hst.out.trans (if_neg he))
        clear hst
        generalize env[k] = q at *
        obtain ⟨qn, qv⟩ := q
        simp only at he d0 d1
        have hne := text_ne he
        clear he
        go_wp2_with fail
        go_roundw
        case rel => exact ⟨k, by omega, rfl, hst2.out, trivial⟩
        case measure => simp [intOf]

/-- What is asked of the document's eval at one expression. -/
def EvalOkR (B : Nat) (env : List (ByteArray × Int)) (ve : Value) (x : X) : Prop := ∀ (w : World) (cs : List Value), RX w B x cs → B ≤ w.heap.size → Sl RNm w B 2 env ve →
  Calls Tryd.prog 39 #[.agg cs.toArray, ve] w fun e w' => e = .returned (pairV (evalX (lookE env) x)) ∧ Ext w w'

set_option maxRecDepth 100000 in
set_option maxHeartbeats 4000000 in
theorem reval_num (B : Nat) (env : List (ByteArray × Int)) (ve : Value) (hln : env.length ≤ 1000000000) (x : X) (h1 : x.op = 1) (h2 : x.w = 0) (IH : ∀ y, y ∈ x.l → EvalOkR B env ve y) (hmay : MayX x) (hv : VX x) : EvalOkR B env ve x := by
  intro w cs hR hB hE
  have HR := hide hR
  have HE := hide hE
  obtain ⟨x5, rfl, hS⟩ := RX_iff.1 hR
  have o5 := hS.oneCell
  have oe := hE.oneCell
  obtain ⟨hv0, hv1, -, -⟩ := VX_iff.1 hv
  obtain ⟨⟨hpt, hnum, -, -⟩, -⟩ := MayX_iff.1 hmay
  have hev := evalX_eq (lookE env) x
  obtain ⟨W1, e1, hV1, hx1, hs1, c0, c1, c2, c3, c4, c5⟩ := boxL6 w (.int .i64 x.op) (.string x.name) (.int .i64 x.n) (.int .i64 x.w) (.int .u64 x.v) x5 25
  have hB1 : B ≤ W1.heap.size := Nat.le_trans hB hx1.size
  have KT := hide (fun (z : Int) (w : World) => rwithin_any z w)
  have KB := hide (fun (b : Bool) (w : World) => rbit_any b w)
  have KL := hide (fun e : Later W1 => rlookup_any B env x.name e.w ve (hE.extN (hx1.trans e.ext) hB) (Nat.le_trans hB1 e.ext.size) hln)
  have Q01 := hide hx1
  unfold pairV at KT
  have hev : evalX (lookE env) x = toldK x.v := by rw [hev]; unfold combK; rw [if_pos ⟨h1, h2⟩]
  rw [hev]
  unfold pairV
  clear hev hR hS HR HE hmay hv hpt hnum IH hE hx1 hB1 KL
  generalize x.op = op at *
  generalize x.w = wd at *
  subst h1 h2
  by_cases hb : x.v ≤ 2147483647
  · rw [show toldK x.v = (x.v, 0) from if_pos ⟨hv0, hb⟩]
    have hb' : decide (2147483647 < x.v) = false := by simpa using hb
    go_enter Tryd.func39, Tryd.ntmps39
    go_wp2_with (first
        | (go_at_call 56; refine (KT.out _ _).mono ?_; rintro _ _ ⟨rfl, rfl⟩)
        | (go_at_call 57; refine (KB.out _ _).mono ?_; rintro _ _ ⟨rfl, rfl⟩))
    go_ret2
    exact ⟨rfl, Q01.out.trans (Later.ext _)⟩
  · rw [show toldK x.v = (0, 62) from if_neg (fun h : insideK x.v => hb h.2)]
    have hb' : 2147483647 < x.v := by omega
    clear hb
    go_enter Tryd.func39, Tryd.ntmps39
    go_wp2_with (first
        | (go_at_call 56; refine (KT.out _ _).mono ?_; rintro _ _ ⟨rfl, rfl⟩)
        | (go_at_call 57; refine (KB.out _ _).mono ?_; rintro _ _ ⟨rfl, rfl⟩))
    go_ret2
    exact ⟨rfl, Q01.out.trans (Later.ext _)⟩

set_option maxRecDepth 100000 in
set_option maxHeartbeats 4000000 in
theorem reval_name (B : Nat) (env : List (ByteArray × Int)) (ve : Value) (hln : env.length ≤ 1000000000) (x : X) (h1 : x.op = 2) (IH : ∀ y, y ∈ x.l → EvalOkR B env ve y) (hmay : MayX x) (hv : VX x) : EvalOkR B env ve x := by
  intro w cs hR hB hE
  have HR := hide hR
  have HE := hide hE
  obtain ⟨x5, rfl, hS⟩ := RX_iff.1 hR
  have o5 := hS.oneCell
  have oe := hE.oneCell
  obtain ⟨hv0, hv1, -, -⟩ := VX_iff.1 hv
  obtain ⟨⟨hpt, hnum, -, -⟩, -⟩ := MayX_iff.1 hmay
  have hev := evalX_eq (lookE env) x
  obtain ⟨W1, e1, hV1, hx1, hs1, c0, c1, c2, c3, c4, c5⟩ := boxL6 w (.int .i64 x.op) (.string x.name) (.int .i64 x.n) (.int .i64 x.w) (.int .u64 x.v) x5 25
  have hB1 : B ≤ W1.heap.size := Nat.le_trans hB hx1.size
  have KT := hide (fun (z : Int) (w : World) => rwithin_any z w)
  have KB := hide (fun (b : Bool) (w : World) => rbit_any b w)
  have KL := hide (fun e : Later W1 => rlookup_any B env x.name e.w ve (hE.extN (hx1.trans e.ext) hB) (Nat.le_trans hB1 e.ext.size) hln)
  have Q01 := hide hx1
  unfold pairV at KT
  have hev : evalX (lookE env) x = nameK (lookE env x.name) := by rw [hev]; unfold combK; rw [if_neg (by omega), if_pos h1]
  rw [hev]
  unfold pairV
  clear hev hR hS HR HE hmay hv hpt hnum IH hE hx1 hB1
  generalize x.op = op at *
  subst h1
  cases hz : lookE env x.name with
  | none =>
    rw [hz] at KL
    rw [show nameK none = (0, 60) from rfl]
    simp only [Option.getD_none, Option.isSome_none] at KL
    clear hz
    go_enter Tryd.func39, Tryd.ntmps39
    go_wp2_with (first
        | (go_at_call 56; refine (KT.out _ _).mono ?_; rintro _ _ ⟨rfl, rfl⟩)
        | (go_at_call 57; refine (KB.out _ _).mono ?_; rintro _ _ ⟨rfl, rfl⟩)
        | (go_at_call 17; refine (KL.out _).mono ?_; rintro _ _ ⟨rfl, rfl⟩))
    go_ret2
    exact ⟨rfl, Q01.out.trans (Later.ext _)⟩
  | some z =>
    rw [hz] at KL
    rw [show nameK (some z) = toldK z from rfl]
    simp only [Option.getD_some, Option.isSome_some] at KL
    clear hz
    go_enter Tryd.func39, Tryd.ntmps39
    go_wp2_with (first
        | (go_at_call 56; refine (KT.out _ _).mono ?_; rintro _ _ ⟨rfl, rfl⟩)
        | (go_at_call 57; refine (KB.out _ _).mono ?_; rintro _ _ ⟨rfl, rfl⟩)
        | (go_at_call 17; refine (KL.out _).mono ?_; rintro _ _ ⟨rfl, rfl⟩))
    go_ret2
    exact ⟨rfl, Q01.out.trans (Later.ext _)⟩

set_option maxRecDepth 100000 in
set_option maxHeartbeats 4000000 in
theorem reval_no (B : Nat) (env : List (ByteArray × Int)) (ve : Value) (hln : env.length ≤ 1000000000) (x : X) (h1 : ¬ (x.op = 1 ∧ x.w = 0)) (h2 : x.op ≠ 2) (h3 : ¬ opK x.op x.n) (IH : ∀ y, y ∈ x.l → EvalOkR B env ve y) (hmay : MayX x) (hv : VX x) : EvalOkR B env ve x := by
  intro w cs hR hB hE
  have HR := hide hR
  have HE := hide hE
  obtain ⟨x5, rfl, hS⟩ := RX_iff.1 hR
  have o5 := hS.oneCell
  have oe := hE.oneCell
  obtain ⟨hv0, hv1, -, -⟩ := VX_iff.1 hv
  obtain ⟨⟨hpt, hnum, -, -⟩, -⟩ := MayX_iff.1 hmay
  have hev := evalX_eq (lookE env) x
  obtain ⟨W1, e1, hV1, hx1, hs1, c0, c1, c2, c3, c4, c5⟩ := boxL6 w (.int .i64 x.op) (.string x.name) (.int .i64 x.n) (.int .i64 x.w) (.int .u64 x.v) x5 25
  have hB1 : B ≤ W1.heap.size := Nat.le_trans hB hx1.size
  have KT := hide (fun (z : Int) (w : World) => rwithin_any z w)
  have KB := hide (fun (b : Bool) (w : World) => rbit_any b w)
  have KL := hide (fun e : Later W1 => rlookup_any B env x.name e.w ve (hE.extN (hx1.trans e.ext) hB) (Nat.le_trans hB1 e.ext.size) hln)
  have Q01 := hide hx1
  unfold pairV at KT
  have hev : evalX (lookE env) x = (0, 61) := by rw [hev]; unfold combK; rw [if_neg h1, if_neg h2, if_neg h3]
  rw [hev]
  unfold pairV
  have hb2 : ((x.op : Int) == 2) = false := by simpa using h2
  have hb7 : ((x.op : Int) == 7) = false := by simpa using (fun h : x.op = 7 => h3 (.inr (.inr h)))
  have h56 : ((x.op : Int) == 5) = false ∨ ((x.n : Int) == 6) = false := by
    by_cases h : x.op = 5
    · right; simpa using (fun h' : x.n = 6 => h3 (.inl ⟨h, h'⟩))
    · left; simpa using h
  have h614 : ((x.op : Int) == 6) = false ∨ decide (14 ≤ x.n) = false := by
    by_cases h : x.op = 6
    · right
      have h26 : x.n ≤ 26 := by unfold numOk at hnum; omega
      exact decide_eq_false (fun h' : 14 ≤ x.n => h3 (.inr (.inl ⟨h, h', h26⟩)))
    · left; simpa using h
  by_cases h0 : x.op = 1
  · have hw : ((x.w : Int) == 0) = false := by simpa using (fun h' : x.w = 0 => h1 ⟨h0, h'⟩)
    have hw' : ((x.w : Int) != 0) = true := by simpa using (fun h' : x.w = 0 => h1 ⟨h0, h'⟩)
    clear hev hR hS HR HE hmay hv hpt hnum IH hE hx1 hB1 h1 h2 h3 h56 h614 KL hb2 hb7
    generalize x.op = op at *
    subst h0
    go_enter Tryd.func39, Tryd.ntmps39
    go_wp2_with (first
        | (go_at_call 56; refine (KT.out _ _).mono ?_; rintro _ _ ⟨rfl, rfl⟩)
        | (go_at_call 57; refine (KB.out _ _).mono ?_; rintro _ _ ⟨rfl, rfl⟩))
    go_ret2
    exact ⟨rfl, Q01.out.trans (Later.ext _)⟩
  · have h10 : ((x.op : Int) == 1) = false := by simpa using h0
    have H := hide (And.intro h56 h614)
    clear hev hR hS HR HE hmay hv hpt hnum IH hE hx1 hB1 h1 h2 h3 h56 h614 KL h0
    obtain ⟨h56, h614⟩ := H.out
    clear H
    rcases h56 with h56 | h56 <;> rcases h614 with h614 | h614
    all_goals
      go_enter Tryd.func39, Tryd.ntmps39
      go_wp2_with (first
    | (go_at_call 56; refine (KT.out _ _).mono ?_; rintro _ _ ⟨rfl, rfl⟩)
    | (go_at_call 57; refine (KB.out _ _).mono ?_; rintro _ _ ⟨rfl, rfl⟩))
      all_goals
        go_ret2
        exact ⟨rfl, Q01.out.trans (Later.ext _)⟩

set_option maxRecDepth 100000 in
set_option maxHeartbeats 4000000 in
theorem reval_not (B : Nat) (env : List (ByteArray × Int)) (ve : Value) (hln : env.length ≤ 1000000000) (x : X) (h1 : x.op = 5) (h2 : x.n = 6) (IH : ∀ y, y ∈ x.l → EvalOkR B env ve y) (hmay : MayX x) (hv : VX x) : EvalOkR B env ve x := by
  intro w cs hR hB hE
  have HR := hide hR
  have HE := hide hE
  obtain ⟨x5, rfl, hS⟩ := RX_iff.1 hR
  have o5 := hS.oneCell
  have oe := hE.oneCell
  obtain ⟨hv0, hv1, -, -⟩ := VX_iff.1 hv
  obtain ⟨⟨hpt, hnum, -, -⟩, -⟩ := MayX_iff.1 hmay
  have hev := evalX_eq (lookE env) x
  obtain ⟨W1, e1, hV1, hx1, hs1, c0, c1, c2, c3, c4, c5⟩ := boxL6 w (.int .i64 x.op) (.string x.name) (.int .i64 x.n) (.int .i64 x.w) (.int .u64 x.v) x5 25
  have hB1 : B ≤ W1.heap.size := Nat.le_trans hB hx1.size
  have KT := hide (fun (z : Int) (w : World) => rwithin_any z w)
  have KB := hide (fun (b : Bool) (w : World) => rbit_any b w)
  have KL := hide (fun e : Later W1 => rlookup_any B env x.name e.w ve (hE.extN (hx1.trans e.ext) hB) (Nat.le_trans hB1 e.ext.size) hln)
  have Q01 := hide hx1
  unfold pairV at KT
  have hlen : x.l.length = 1 := by unfold partsOk at hpt; omega
  obtain ⟨ax, capx, rfl, hcapx, hrow⟩ := hS
  have hl0 : 0 < x.l.length := by omega
  have IH0 := IH x.l[0] (List.getElem_mem hl0)
  obtain ⟨b0, o0, u00, u01, u02, u03, u04, u05, hab0, hbB0, hRk0, hCk0, -, -, -, -, -, -⟩ := hrow.open6 hl0
  have KE0 := hide (show ECalls Tryd.prog 39 #[.agg #[u00, u01, u02, u03, u04, u05], ve] W1 (pairV (evalX (lookE env) x.l[0])) from fun w' hw => IH0 w' _ (hRk0.ext (hx1.trans hw) hB) (Nat.le_trans hB1 hw.size) (hE.extN (hx1.trans hw) hB))
  obtain ⟨d00, d01, d02, d03, d04, d05⟩ := (hCk0.ext hx1).later6
  clear IH0 hRk0 hCk0
  have hev : evalX (lookE env) x = if (evalX (lookE env) x.l[0]).2 ≠ 0 then ((0 : Int), (evalX (lookE env) x.l[0]).2) else (bitK ((evalX (lookE env) x.l[0]).1 == 0), (0 : Int)) := by
    rw [hev]; unfold combK
    rw [if_neg (by omega), if_neg (by omega), if_pos (.inl ⟨h1, h2⟩), if_pos h1]
    simp [hlen]
  rw [hev]
  generalize evalX (lookE env) x.l[0] = r0 at *
  obtain ⟨r01, r02⟩ := r0
  subst hab0
  unfold pairV at *
  simp only at KE0 ⊢
  clear hev hR HR HE hmay hv hpt hnum IH hE hx1 hB1 hrow hlen hcapx KL
  generalize x.op = op at *
  generalize x.n = nn at *
  subst h1 h2
  simp only [Nat.zero_mul, Nat.one_mul, Nat.add_zero, Nat.reduceMul, Nat.reduceAdd, Nat.add_assoc] at d00 d01 d02 d03 d04 d05
  by_cases he0 : r02 = 0
  · subst he0
    rw [if_neg (by simp)]
    go_enter Tryd.func39, Tryd.ntmps39
    go_wp2_with (first
    | (go_at_call 56; refine (KT.out _ _).mono ?_; rintro _ _ ⟨rfl, rfl⟩)
    | (go_at_call 57; refine (KB.out _ _).mono ?_; rintro _ _ ⟨rfl, rfl⟩)
    | (go_at_call 39; with_reducible refine (KE0.out.at_ _).mono ?_; rintro _ _ ⟨rfl, e, rfl⟩))
    go_ret2
    exact ⟨rfl, Q01.out.trans (Later.ext _)⟩
  · rw [if_pos he0]
    have he' : ((r02 : Int) == 0) = false := by simpa using he0
    have he2 : ((r02 : Int) != 0) = true := by simpa using he0
    clear he0
    go_enter Tryd.func39, Tryd.ntmps39
    go_wp2_with (first
    | (go_at_call 56; refine (KT.out _ _).mono ?_; rintro _ _ ⟨rfl, rfl⟩)
    | (go_at_call 57; refine (KB.out _ _).mono ?_; rintro _ _ ⟨rfl, rfl⟩)
    | (go_at_call 39; with_reducible refine (KE0.out.at_ _).mono ?_; rintro _ _ ⟨rfl, e, rfl⟩))
    go_ret2
    exact ⟨rfl, Q01.out.trans (Later.ext _)⟩

set_option maxRecDepth 100000 in
set_option maxHeartbeats 4000000 in
theorem reval_cond (B : Nat) (env : List (ByteArray × Int)) (ve : Value) (hln : env.length ≤ 1000000000) (x : X) (h1 : x.op = 7) (IH : ∀ y, y ∈ x.l → EvalOkR B env ve y) (hmay : MayX x) (hv : VX x) : EvalOkR B env ve x := by
  intro w cs hR hB hE
  have HR := hide hR
  have HE := hide hE
  obtain ⟨x5, rfl, hS⟩ := RX_iff.1 hR
  have o5 := hS.oneCell
  have oe := hE.oneCell
  obtain ⟨hv0, hv1, -, -⟩ := VX_iff.1 hv
  obtain ⟨⟨hpt, hnum, -, -⟩, -⟩ := MayX_iff.1 hmay
  have hev := evalX_eq (lookE env) x
  obtain ⟨W1, e1, hV1, hx1, hs1, c0, c1, c2, c3, c4, c5⟩ := boxL6 w (.int .i64 x.op) (.string x.name) (.int .i64 x.n) (.int .i64 x.w) (.int .u64 x.v) x5 25
  have hB1 : B ≤ W1.heap.size := Nat.le_trans hB hx1.size
  have KT := hide (fun (z : Int) (w : World) => rwithin_any z w)
  have KB := hide (fun (b : Bool) (w : World) => rbit_any b w)
  have KL := hide (fun e : Later W1 => rlookup_any B env x.name e.w ve (hE.extN (hx1.trans e.ext) hB) (Nat.le_trans hB1 e.ext.size) hln)
  have Q01 := hide hx1
  unfold pairV at KT
  have hlen : x.l.length = 3 := by unfold partsOk at hpt; omega
  obtain ⟨ax, capx, rfl, hcapx, hrow⟩ := hS
  have hl0 : 0 < x.l.length := by omega
  have IH0 := IH x.l[0] (List.getElem_mem hl0)
  obtain ⟨b0, o0, u00, u01, u02, u03, u04, u05, hab0, hbB0, hRk0, hCk0, -, -, -, -, -, -⟩ := hrow.open6 hl0
  have KE0 := hide (show ECalls Tryd.prog 39 #[.agg #[u00, u01, u02, u03, u04, u05], ve] W1 (pairV (evalX (lookE env) x.l[0])) from fun w' hw => IH0 w' _ (hRk0.ext (hx1.trans hw) hB) (Nat.le_trans hB1 hw.size) (hE.extN (hx1.trans hw) hB))
  obtain ⟨d00, d01, d02, d03, d04, d05⟩ := (hCk0.ext hx1).later6
  clear IH0 hRk0 hCk0
  have hl1 : 1 < x.l.length := by omega
  have IH1 := IH x.l[1] (List.getElem_mem hl1)
  obtain ⟨b1, o1, u10, u11, u12, u13, u14, u15, hab1, hbB1, hRk1, hCk1, -, -, -, -, -, -⟩ := hrow.open6 hl1
  have KE1 := hide (show ECalls Tryd.prog 39 #[.agg #[u10, u11, u12, u13, u14, u15], ve] W1 (pairV (evalX (lookE env) x.l[1])) from fun w' hw => IH1 w' _ (hRk1.ext (hx1.trans hw) hB) (Nat.le_trans hB1 hw.size) (hE.extN (hx1.trans hw) hB))
  obtain ⟨d10, d11, d12, d13, d14, d15⟩ := (hCk1.ext hx1).later6
  clear IH1 hRk1 hCk1
  have hl2 : 2 < x.l.length := by omega
  have IH2 := IH x.l[2] (List.getElem_mem hl2)
  obtain ⟨b2, o2, u20, u21, u22, u23, u24, u25, hab2, hbB2, hRk2, hCk2, -, -, -, -, -, -⟩ := hrow.open6 hl2
  have KE2 := hide (show ECalls Tryd.prog 39 #[.agg #[u20, u21, u22, u23, u24, u25], ve] W1 (pairV (evalX (lookE env) x.l[2])) from fun w' hw => IH2 w' _ (hRk2.ext (hx1.trans hw) hB) (Nat.le_trans hB1 hw.size) (hE.extN (hx1.trans hw) hB))
  obtain ⟨d20, d21, d22, d23, d24, d25⟩ := (hCk2.ext hx1).later6
  clear IH2 hRk2 hCk2
  have hev : evalX (lookE env) x = if (evalX (lookE env) x.l[0]).2 ≠ 0 then ((0 : Int), (evalX (lookE env) x.l[0]).2) else if (evalX (lookE env) x.l[0]).1 = 0 then evalX (lookE env) x.l[2] else evalX (lookE env) x.l[1] := by
    rw [hev]; unfold combK
    rw [if_neg (by omega), if_neg (by omega), if_pos (.inr (.inr h1)), if_neg (show ¬ x.op = 5 by omega), if_pos h1]
    by_cases hz : (evalX (lookE env) x.l[0]).1 = 0
    · simp [hlen, hz]
    · simp [hlen, hz]
  rw [hev]
  generalize evalX (lookE env) x.l[0] = r0 at *
  generalize evalX (lookE env) x.l[1] = r1 at *
  generalize evalX (lookE env) x.l[2] = r2 at *
  obtain ⟨r01, r02⟩ := r0
  obtain ⟨r11, r12⟩ := r1
  obtain ⟨r21, r22⟩ := r2
  subst hab0
  obtain ⟨rfl, rfl⟩ : b0 = b1 ∧ o0 = o1 := by simpa using hab1
  obtain ⟨rfl, rfl⟩ : b0 = b2 ∧ o0 = o2 := by simpa using hab2
  unfold pairV at *
  simp only at KE0 KE1 KE2 ⊢
  clear hev hR HR HE hmay hv hpt hnum IH hE hx1 hB1 hrow hlen hcapx KL hab1 hab2
  generalize x.op = op at *
  subst h1
  simp only [Nat.zero_mul, Nat.one_mul, Nat.add_zero, Nat.reduceMul, Nat.reduceAdd, Nat.add_assoc] at d00 d01 d02 d03 d04 d05 d10 d11 d12 d13 d14 d15 d20 d21 d22 d23 d24 d25
  by_cases he0 : r02 = 0
  · subst he0
    rw [if_neg (by simp)]
    by_cases hz : r01 = 0
    · subst hz
      simp only [if_true]
      go_enter Tryd.func39, Tryd.ntmps39
      go_wp2_with (first
    | (go_at_call 56; refine (KT.out _ _).mono ?_; rintro _ _ ⟨rfl, rfl⟩)
    | (go_at_call 57; refine (KB.out _ _).mono ?_; rintro _ _ ⟨rfl, rfl⟩)
    | (go_at_call 39; with_reducible refine (KE0.out.at_ _).mono ?_; rintro _ _ ⟨rfl, e, rfl⟩)
    | (go_at_call 39; with_reducible refine (KE2.out.at_ _).mono ?_; rintro _ _ ⟨rfl, e, rfl⟩))
      go_ret2
      exact ⟨rfl, Q01.out.trans (Later.ext _)⟩
    · rw [if_neg hz]
      have hz' : ((r01 : Int) == 0) = false := by simpa using hz
      have hz2 : ((r01 : Int) != 0) = true := by simpa using hz
      clear hz
      go_enter Tryd.func39, Tryd.ntmps39
      go_wp2_with (first
    | (go_at_call 56; refine (KT.out _ _).mono ?_; rintro _ _ ⟨rfl, rfl⟩)
    | (go_at_call 57; refine (KB.out _ _).mono ?_; rintro _ _ ⟨rfl, rfl⟩)
    | (go_at_call 39; with_reducible refine (KE0.out.at_ _).mono ?_; rintro _ _ ⟨rfl, e, rfl⟩)
    | (go_at_call 39; with_reducible refine (KE1.out.at_ _).mono ?_; rintro _ _ ⟨rfl, e, rfl⟩))
      go_ret2
      exact ⟨rfl, Q01.out.trans (Later.ext _)⟩
  · rw [if_pos he0]
    have he' : ((r02 : Int) == 0) = false := by simpa using he0
    have he2 : ((r02 : Int) != 0) = true := by simpa using he0
    clear he0
    go_enter Tryd.func39, Tryd.ntmps39
    go_wp2_with (first
    | (go_at_call 56; refine (KT.out _ _).mono ?_; rintro _ _ ⟨rfl, rfl⟩)
    | (go_at_call 57; refine (KB.out _ _).mono ?_; rintro _ _ ⟨rfl, rfl⟩)
    | (go_at_call 39; with_reducible refine (KE0.out.at_ _).mono ?_; rintro _ _ ⟨rfl, e, rfl⟩))
    go_ret2
    exact ⟨rfl, Q01.out.trans (Later.ext _)⟩

set_option maxRecDepth 100000 in
set_option maxHeartbeats 4000000 in
theorem reval_two (B : Nat) (env : List (ByteArray × Int)) (ve : Value) (hln : env.length ≤ 1000000000) (x : X) (h1 : x.op = 6) (hn : 14 ≤ x.n ∧ x.n ≤ 26) (IH : ∀ y, y ∈ x.l → EvalOkR B env ve y) (hmay : MayX x) (hv : VX x) : EvalOkR B env ve x := by
  intro w cs hR hB hE
  have HR := hide hR
  have HE := hide hE
  obtain ⟨x5, rfl, hS⟩ := RX_iff.1 hR
  have o5 := hS.oneCell
  have oe := hE.oneCell
  obtain ⟨hv0, hv1, -, -⟩ := VX_iff.1 hv
  obtain ⟨⟨hpt, hnum, -, -⟩, -⟩ := MayX_iff.1 hmay
  have hev := evalX_eq (lookE env) x
  obtain ⟨W1, e1, hV1, hx1, hs1, c0, c1, c2, c3, c4, c5⟩ := boxL6 w (.int .i64 x.op) (.string x.name) (.int .i64 x.n) (.int .i64 x.w) (.int .u64 x.v) x5 25
  have hB1 : B ≤ W1.heap.size := Nat.le_trans hB hx1.size
  have KT := hide (fun (z : Int) (w : World) => rwithin_any z w)
  have KB := hide (fun (b : Bool) (w : World) => rbit_any b w)
  have KL := hide (fun e : Later W1 => rlookup_any B env x.name e.w ve (hE.extN (hx1.trans e.ext) hB) (Nat.le_trans hB1 e.ext.size) hln)
  have Q01 := hide hx1
  unfold pairV at KT
  have hlen : x.l.length = 2 := by unfold partsOk at hpt; omega
  obtain ⟨ax, capx, rfl, hcapx, hrow⟩ := hS
  have hl0 : 0 < x.l.length := by omega
  have IH0 := IH x.l[0] (List.getElem_mem hl0)
  obtain ⟨b0, o0, u00, u01, u02, u03, u04, u05, hab0, hbB0, hRk0, hCk0, -, -, -, -, -, -⟩ := hrow.open6 hl0
  have KE0 := hide (show ECalls Tryd.prog 39 #[.agg #[u00, u01, u02, u03, u04, u05], ve] W1 (pairV (evalX (lookE env) x.l[0])) from fun w' hw => IH0 w' _ (hRk0.ext (hx1.trans hw) hB) (Nat.le_trans hB1 hw.size) (hE.extN (hx1.trans hw) hB))
  obtain ⟨d00, d01, d02, d03, d04, d05⟩ := (hCk0.ext hx1).later6
  clear IH0 hRk0 hCk0
  have hl1 : 1 < x.l.length := by omega
  have IH1 := IH x.l[1] (List.getElem_mem hl1)
  obtain ⟨b1, o1, u10, u11, u12, u13, u14, u15, hab1, hbB1, hRk1, hCk1, -, -, -, -, -, -⟩ := hrow.open6 hl1
  have KE1 := hide (show ECalls Tryd.prog 39 #[.agg #[u10, u11, u12, u13, u14, u15], ve] W1 (pairV (evalX (lookE env) x.l[1])) from fun w' hw => IH1 w' _ (hRk1.ext (hx1.trans hw) hB) (Nat.le_trans hB1 hw.size) (hE.extN (hx1.trans hw) hB))
  obtain ⟨d10, d11, d12, d13, d14, d15⟩ := (hCk1.ext hx1).later6
  clear IH1 hRk1 hCk1
  have HTWO := hide (fun (a b : Int) (w : World) (h : 0 ≤ a ∧ a ≤ 2147483647) (h' : 0 ≤ b ∧ b ≤ 2147483647) => rtwo_any x.n a b w hn h.1 h.2 h'.1 h'.2)
  have hbd0 := eval_val (env := lookE env) (x := x.l[0])
  have hbd1 := eval_val (env := lookE env) (x := x.l[1])
  have hev : evalX (lookE env) x = if (evalX (lookE env) x.l[0]).2 ≠ 0 then ((0 : Int), (evalX (lookE env) x.l[0]).2) else if (evalX (lookE env) x.l[1]).2 ≠ 0 then ((0 : Int), (evalX (lookE env) x.l[1]).2) else toldK (twoK x.n (evalX (lookE env) x.l[0]).1 (evalX (lookE env) x.l[1]).1) := by
    rw [hev]; unfold combK
    rw [if_neg (by omega), if_neg (by omega), if_pos (.inr (.inl ⟨h1, hn.1, hn.2⟩)), if_neg (show ¬ x.op = 5 by omega), if_neg (show ¬ x.op = 7 by omega)]
    simp [hlen]
  rw [hev]
  generalize evalX (lookE env) x.l[0] = r0 at *
  generalize evalX (lookE env) x.l[1] = r1 at *
  obtain ⟨r01, r02⟩ := r0
  obtain ⟨r11, r12⟩ := r1
  subst hab0
  obtain ⟨rfl, rfl⟩ : b0 = b1 ∧ o0 = o1 := by simpa using hab1
  have HBD := hide (And.intro hbd0 hbd1)
  have hn14 := hn.1
  unfold pairV at *
  simp only at KE0 KE1 HBD ⊢
  clear hev hR HR HE hmay hv hpt hnum IH hE hx1 hB1 hrow hlen hcapx KL hab1 hn hbd0 hbd1
  generalize x.op = op at *
  subst h1
  simp only [Nat.zero_mul, Nat.one_mul, Nat.add_zero, Nat.reduceMul, Nat.reduceAdd, Nat.add_assoc] at d00 d01 d02 d03 d04 d05 d10 d11 d12 d13 d14 d15
  by_cases he0 : r02 = 0
  · subst he0
    rw [if_neg (by simp)]
    by_cases hz : r12 = 0
    · subst hz
      rw [if_neg (by simp)]
      obtain ⟨tv, htv⟩ : ∃ tv, tv = toldK (twoK x.n r01 r11) := ⟨_, rfl⟩
      rw [← htv]
      have HTV := hide htv
      clear htv
      go_enter Tryd.func39, Tryd.ntmps39
      go_wp2_with (first
    | (go_at_call 56; refine (KT.out _ _).mono ?_; rintro _ _ ⟨rfl, rfl⟩)
    | (go_at_call 57; refine (KB.out _ _).mono ?_; rintro _ _ ⟨rfl, rfl⟩)
    | (go_at_call 39; with_reducible refine (KE0.out.at_ _).mono ?_; rintro _ _ ⟨rfl, e, rfl⟩)
    | (go_at_call 39; with_reducible refine (KE1.out.at_ _).mono ?_; rintro _ _ ⟨rfl, e, rfl⟩))
      refine (HTWO.out _ _ _ HBD.out.1 HBD.out.2).mono ?_
      rintro _ _ ⟨v, rfl, hvv, rfl⟩
      have HVV := hide (hvv.trans HTV.out.symm)
      clear hvv HTV
      go_wp2_with (first
    | (go_at_call 56; refine (KT.out _ _).mono ?_; rintro _ _ ⟨rfl, rfl⟩)
    | (go_at_call 57; refine (KB.out _ _).mono ?_; rintro _ _ ⟨rfl, rfl⟩)
    | (go_at_call 39; with_reducible refine (KE0.out.at_ _).mono ?_; rintro _ _ ⟨rfl, e, rfl⟩)
    | (go_at_call 39; with_reducible refine (KE1.out.at_ _).mono ?_; rintro _ _ ⟨rfl, e, rfl⟩))
      go_ret2
      exact ⟨by first | rfl | (rw [HVV.out]; rfl), Q01.out.trans (Later.ext _)⟩
    · rw [if_pos hz]
      have hz' : ((r12 : Int) == 0) = false := by simpa using hz
      have hz2 : ((r12 : Int) != 0) = true := by simpa using hz
      clear hz
      go_enter Tryd.func39, Tryd.ntmps39
      go_wp2_with (first
    | (go_at_call 56; refine (KT.out _ _).mono ?_; rintro _ _ ⟨rfl, rfl⟩)
    | (go_at_call 57; refine (KB.out _ _).mono ?_; rintro _ _ ⟨rfl, rfl⟩)
    | (go_at_call 39; with_reducible refine (KE0.out.at_ _).mono ?_; rintro _ _ ⟨rfl, e, rfl⟩)
    | (go_at_call 39; with_reducible refine (KE1.out.at_ _).mono ?_; rintro _ _ ⟨rfl, e, rfl⟩))
      go_ret2
      exact ⟨rfl, Q01.out.trans (Later.ext _)⟩
  · rw [if_pos he0]
    have he' : ((r02 : Int) == 0) = false := by simpa using he0
    have he2 : ((r02 : Int) != 0) = true := by simpa using he0
    clear he0
    go_enter Tryd.func39, Tryd.ntmps39
    go_wp2_with (first
    | (go_at_call 56; refine (KT.out _ _).mono ?_; rintro _ _ ⟨rfl, rfl⟩)
    | (go_at_call 57; refine (KB.out _ _).mono ?_; rintro _ _ ⟨rfl, rfl⟩)
    | (go_at_call 39; with_reducible refine (KE0.out.at_ _).mono ?_; rintro _ _ ⟨rfl, e, rfl⟩))
    go_ret2
    exact ⟨rfl, Q01.out.trans (Later.ext _)⟩

theorem reval_any (B : Nat) (env : List (ByteArray × Int)) (ve : Value) (hln : env.length ≤ 1000000000) (x : X) : MayX x → VX x → EvalOkR B env ve x := by
  induction x using X.ind with
  | h x ih =>
    intro hm hv
    have hm' := (MayX_iff.1 hm).2
    have hv' := (VX_iff.1 hv).2.2.2
    have IH : ∀ y, y ∈ x.l → EvalOkR B env ve y := fun y hy => ih y hy (hm' y hy) (hv' y hy)
    by_cases h1 : x.op = 1 ∧ x.w = 0
    · exact reval_num B env ve hln x h1.1 h1.2 IH hm hv
    · by_cases h2 : x.op = 2
      · exact reval_name B env ve hln x h2 IH hm hv
      · by_cases h3 : opK x.op x.n
        · rcases h3 with h3 | h3 | h3
          · exact reval_not B env ve hln x h3.1 h3.2 IH hm hv
          · exact reval_two B env ve hln x h3.1 h3.2 IH hm hv
          · exact reval_cond B env ve hln x h3 IH hm hv
        · exact reval_no B env ve hln x h1 h2 h3 IH hm hv

end Go.Proofs.YtonbgnaopkopoaaDoor
