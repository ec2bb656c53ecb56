/-
  THE CONTRACTS OF PACKAGE ast's good: an expression's own fields.
-/
import Derived.Test.YtjoglnjpgkobeaaGreatDoorAllPk
import Derived.Test.YtjoglnjpgkobeaaGreatDoorMayRPk
namespace Go.Proofs.YtjoglnjpgkobeaaGreatDoor
open Go Go.RowKit
set_option linter.all false
set_option linter.unusedVariables false
set_option linter.unusedSimpArgs false
set_option linter.unusedVariables false
set_option linter.unusedSimpArgs false
attribute [local go_sem] run_store_one

/-- What the table's row says of an expression that is no number. -/
def rowOk (r : KRow) (n : Int) (len w v : Int) (s : ByteArray) : Prop := r.min ≤ len ∧ len ≤ r.max ∧ r.lo ≤ n ∧ n ≤ r.hi ∧ w = 0 ∧ v = 0 ∧ (r.named = true ∧ nameP s ∨ r.named = false ∧ s.size = 0)

set_option maxRecDepth 20000 in
set_option maxHeartbeats 4000000 in
theorem good_n (k : Nat) (r : KRow) (hr0 : kindRows[k]? = some r) (hk1 : 2 ≤ k) (hk2 : k ≤ 10) (nm : ByteArray) (n wd xv : Int) (sa : Option Addr) (len : Nat) (cap : Nat) (hln : len ≤ 1000000000) (hsz : nm.size < 4294967281) (w : World) (hT : Tabs w) :
    Calls Tryz.prog 90 #[.agg #[.int .i64 k, .string nm, .int .i64 n, .int .i64 wd, .int .u64 xv, .slice sa len cap]] w fun e w' => e = .returned (.bool (yes (rowOk r n len wd xv nm))) ∧ Ext w w' := by
  obtain ⟨res, hres⟩ : ∃ res, res = yes (rowOk r n len wd xv nm) := ⟨_, rfl⟩
  rw [← hres]
  obtain ⟨nmd, mn, mx, lo, hi⟩ := r
  have R := hide hres
  have TB := hide hT
  clear hres
  obtain ⟨t0, t1, t2, t3, t4⟩ := Cells.later5 (hT.kinds k _ hr0)
  have hk := hide hr0
  clear hr0 hT
  obtain ⟨W1, e1, hV1, hx1, hs1, c0, c1, c2, c3, c4, c5⟩ := boxL6 w (.int .i64 k) (.string nm) (.int .i64 n) (.int .i64 wd) (.int .u64 xv) (.slice sa len cap) 49
  have t0 := cellL t0 hx1
  have t1 := cellL t1 hx1
  have t2 := cellL t2 hx1
  have t3 := cellL t3 hx1
  have t4 := cellL t4 hx1
  obtain ⟨W2, e2, hV2, hx2, hs2, d0, d1, d2, d3, d4⟩ := boxL5 e1.w (.bool nmd) (.int .i64 mn) (.int .i64 mx) (.int .i64 lo) (.int .i64 hi) 144
  have hx12 := e1.ext.trans hx2
  have b0 := cellL c0 hx12
  have b1 := cellL c1 hx12
  have b2 := cellL c2 hx12
  have b3 := cellL c3 hx12
  have b4 := cellL c4 hx12
  have b5 := cellL c5 hx12
  have hx02 := hx1.trans hx12
  have G1 := hide (show ECalls Tryz.prog 105 #[.string nm] W2 (.bool (nameOk nm)) from fun w' hw => name_any nm w' ((TB.out.ext (hx02.trans hw)).lib) hsz)
  clear hx1 hx2 hx12 hs1 hs2 TB
  by_cases hN : nameP nm
  all_goals
    first | rw [nameOk_iff.2 hN] at G1 | rw [nameOk_no hN] at G1
    have qN := hide hN
    clear hN
    by_cases h0 : nm.size = 0
    all_goals
      first | have hem := empty_size h0 | have hem := full_size h0
      have q0 := hide h0
      clear h0
      cases nmd
      all_goals
        go_enter Tryz.func90, Tryz.ntmps90
        go_wp2_with (first | (go_at_call 105; refine (G1.out.at_ _).mono ?_; rintro _ _ ⟨rfl, e, rfl⟩))
        all_goals
          go_ret
          refine ⟨?_, hx02.trans (Later.ext _)⟩
          rw [R.out]
          refine congrArg (fun b => Ending.returned (Value.bool b)) ?_
          rw [Bool.eq_iff_iff, yes_iff]
          unfold rowOk
          have h1 := qN.out
          have h2 := q0.out
          simp [h1, h2] at *
          try omega

end Go.Proofs.YtjoglnjpgkobeaaGreatDoor

/-
  THE CONTRACTS OF PACKAGE ast's good: a number's own fields.
-/
namespace Go.Proofs.YtjoglnjpgkobeaaGreatDoor
open Go Go.RowKit
set_option linter.all false
set_option linter.unusedVariables false
set_option linter.unusedSimpArgs false
set_option linter.unusedVariables false
set_option linter.unusedSimpArgs false
attribute [local go_sem] run_store_one

/-- What may be of a number. -/
def numbOk (n len w v : Int) (s : ByteArray) : Prop := len = 0 ∧ n = 0 ∧ s.size = 0 ∧ 0 ≤ w ∧ w ≤ 64 ∧ (w = 0 ∨ w = 64 ∨ v < 2 ^ w.toNat)

/-- How the fields of a number may lie. -/
inductive NumCase (wd xv : Int) (nm : ByteArray) : Prop
  | name (h : nm.toList.isEmpty = false) (hr : ∀ n len, ¬ numbOk n len wd xv nm)
  | low (h : nm.toList.isEmpty = true) (h1 : decide (0 ≤ wd) = false) (hr : ∀ n len, ¬ numbOk n len wd xv nm)
  | high (h : nm.toList.isEmpty = true) (h1 : 0 ≤ wd) (h2 : decide (wd ≤ 64) = false) (hr : ∀ n len, ¬ numbOk n len wd xv nm)
  | zero (h : nm.toList.isEmpty = true) (h1 : wd = 0) (hr : ∀ n len, numbOk n len wd xv nm ↔ len = 0 ∧ n = 0)
  | full (h : nm.toList.isEmpty = true) (h1 : wd = 64) (hr : ∀ n len, numbOk n len wd xv nm ↔ len = 0 ∧ n = 0)
  | fits (h : nm.toList.isEmpty = true) (h1 : 0 ≤ wd) (h2 : wd ≤ 64) (h3 : (wd == 0) = false) (h4 : (wd == 64) = false) (hp : ((2 : Int) ^ wd.toNat) % 18446744073709551616 = 2 ^ wd.toNat) (h5 : xv < 2 ^ wd.toNat) (hr : ∀ n len, numbOk n len wd xv nm ↔ len = 0 ∧ n = 0)
  | over (h : nm.toList.isEmpty = true) (h1 : 0 ≤ wd) (h2 : wd ≤ 64) (h3 : (wd == 0) = false) (h4 : (wd == 64) = false) (hp : ((2 : Int) ^ wd.toNat) % 18446744073709551616 = 2 ^ wd.toNat) (h5 : ¬ xv < 2 ^ wd.toNat) (hr : ∀ n len, ¬ numbOk n len wd xv nm)
theorem two_pow_mod (n : Nat) (h : n < 64) : ((2 : Int) ^ n) % 18446744073709551616 = 2 ^ n := by
  have h1 : (2 : Nat) ^ n < 2 ^ 64 := Nat.pow_lt_pow_right (by decide) h
  have h2 : (2 : Nat) ^ 64 = 18446744073709551616 := by decide
  have h3 : ((2 : Int) ^ n) = ((2 ^ n : Nat) : Int) := by simp
  rw [h3]
  rw [h2] at h1
  generalize (2 : Nat) ^ n = p at *
  omega
theorem numCase (wd xv : Int) (nm : ByteArray) : NumCase wd xv nm := by
  by_cases h0 : nm.size = 0
  · have hem := empty_size h0
    by_cases h1 : 0 ≤ wd
    · by_cases h2 : wd ≤ 64
      · by_cases h3 : wd = 0
        · exact .zero hem h3 (fun n len => by unfold numbOk; omega)
        · by_cases h4 : wd = 64
          · exact .full hem h4 (fun n len => by unfold numbOk; omega)
          · have hp := two_pow_mod wd.toNat (by omega)
            by_cases h5 : xv < 2 ^ wd.toNat
            · exact .fits hem h1 h2 (by simpa using h3) (by simpa using h4) hp h5 (fun n len => by unfold numbOk; constructor; exact fun h => ⟨h.1, h.2.1⟩; exact fun h => ⟨h.1, h.2, h0, h1, h2, .inr (.inr h5)⟩)
            · exact .over hem h1 h2 (by simpa using h3) (by simpa using h4) hp h5 (fun n len h => by
                rcases h.2.2.2.2.2 with h | h | h
                · exact h3 h
                · exact h4 h
                · exact h5 h)
      · exact .high hem h1 (by simpa using h2) (fun n len h => h2 h.2.2.2.2.1)
    · exact .low hem (by simpa using h1) (fun n len h => h1 h.2.2.2.1)
  · exact .name (full_size h0) (fun n len h => h0 h.2.2.1)

set_option maxRecDepth 20000 in
set_option maxHeartbeats 4000000 in
theorem good_1 (nm : ByteArray) (n wd xv : Int) (sa : Option Addr) (len : Nat) (cap : Nat) (hln : len ≤ 1000000000) (w : World) (hT : Tabs w) :
    Calls Tryz.prog 90 #[.agg #[.int .i64 1, .string nm, .int .i64 n, .int .i64 wd, .int .u64 xv, .slice sa len cap]] w fun e w' => e = .returned (.bool (yes (numbOk n len wd xv nm))) ∧ Ext w w' := by
  obtain ⟨res, hres⟩ : ∃ res, res = yes (numbOk n len wd xv nm) := ⟨_, rfl⟩
  rw [← hres]
  have R := hide hres
  clear hres
  obtain ⟨nmd, mn, mx, lo, hi, hmn, hmx, hlo, hhi, hTk⟩ : ∃ (nmd : Bool) (mn mx lo hi : Int), mn = 0 ∧ mx = 0 ∧ lo = 0 ∧ hi = 0 ∧ Cells w 0 (1 * 5) [.bool nmd, .int .i64 mn, .int .i64 mx, .int .i64 lo, .int .i64 hi] :=
    ⟨false, 0, 0, 0, 0, rfl, rfl, rfl, rfl, hT.kinds 1 _ rfl⟩
  have RW := hide (And.intro hmn (And.intro hmx (And.intro hlo hhi)))
  clear hmn hmx hlo hhi
  obtain ⟨t0, t1, t2, t3, t4⟩ := Cells.later5 hTk
  clear hT
  obtain ⟨W1, e1, hV1, hx1, hs1, c0, c1, c2, c3, c4, c5⟩ := boxL6 w (.int .i64 1) (.string nm) (.int .i64 n) (.int .i64 wd) (.int .u64 xv) (.slice sa len cap) 49
  have t0 : ∀ e : Later W1, e.w.cell? ⟨0, 5, none⟩ = some (.bool nmd) := cellL t0 hx1
  have t1 : ∀ e : Later W1, e.w.cell? ⟨0, 6, none⟩ = some (.int .i64 mn) := cellL t1 hx1
  have t2 : ∀ e : Later W1, e.w.cell? ⟨0, 7, none⟩ = some (.int .i64 mx) := cellL t2 hx1
  have t3 : ∀ e : Later W1, e.w.cell? ⟨0, 8, none⟩ = some (.int .i64 lo) := cellL t3 hx1
  have t4 : ∀ e : Later W1, e.w.cell? ⟨0, 9, none⟩ = some (.int .i64 hi) := cellL t4 hx1
  obtain ⟨W2, e2, hV2, hx2, hs2, d0, d1, d2, d3, d4⟩ := boxL5 e1.w (.bool nmd) (.int .i64 mn) (.int .i64 mx) (.int .i64 lo) (.int .i64 hi) 144
  have hx12 := e1.ext.trans hx2
  have b0 := cellL c0 hx12
  have b1 := cellL c1 hx12
  have b2 := cellL c2 hx12
  have b3 := cellL c3 hx12
  have b4 := cellL c4 hx12
  have b5 := cellL c5 hx12
  have hx02 := hx1.trans hx12
  clear hx1 hx2 hx12 hs1 hs2
  have NC := numCase wd xv nm
  cases NC
  case name h hr =>
    have HR := hide hr
    clear hr
    go_enter Tryz.func90, Tryz.ntmps90
    go_wp2_with fail
    all_goals
      first
        | go_ret
        | (refine wp_region_later (W := W2) (by kernel_rfl) (by kernel_rfl) (Later.ext _) ?_
           repeat (go_big_quiet_step (fail))
           refine wpQuiet_nil ?_
           rintro _ ⟨e, rfl⟩
           go_wp2_with fail
           go_ret)
    all_goals
      refine ⟨?_, hx02.trans (Later.ext _)⟩
      rw [R.out]
      refine congrArg (fun b => Ending.returned (Value.bool b)) ?_
      rw [Bool.eq_iff_iff, yes_iff]
      have hh := HR.out n (len : Int)
      have q := RW.out
      simp [hh]
      try omega
  case low h h1 hr =>
    have HR := hide hr
    clear hr
    go_enter Tryz.func90, Tryz.ntmps90
    go_wp2_with fail
    all_goals
      first
        | go_ret
        | (refine wp_region_later (W := W2) (by kernel_rfl) (by kernel_rfl) (Later.ext _) ?_
           repeat (go_big_quiet_step (fail))
           refine wpQuiet_nil ?_
           rintro _ ⟨e, rfl⟩
           go_wp2_with fail
           go_ret)
    all_goals
      refine ⟨?_, hx02.trans (Later.ext _)⟩
      rw [R.out]
      refine congrArg (fun b => Ending.returned (Value.bool b)) ?_
      rw [Bool.eq_iff_iff, yes_iff]
      have hh := HR.out n (len : Int)
      have q := RW.out
      simp [hh]
      try omega
  case high h h1 h2 hr =>
    have HR := hide hr
    clear hr
    go_enter Tryz.func90, Tryz.ntmps90
    go_wp2_with fail
    all_goals
      first
        | go_ret
        | (refine wp_region_later (W := W2) (by kernel_rfl) (by kernel_rfl) (Later.ext _) ?_
           repeat (go_big_quiet_step (fail))
           refine wpQuiet_nil ?_
           rintro _ ⟨e, rfl⟩
           go_wp2_with fail
           go_ret)
    all_goals
      refine ⟨?_, hx02.trans (Later.ext _)⟩
      rw [R.out]
      refine congrArg (fun b => Ending.returned (Value.bool b)) ?_
      rw [Bool.eq_iff_iff, yes_iff]
      have hh := HR.out n (len : Int)
      have q := RW.out
      simp [hh]
      try omega
  case zero h h1 hr =>
    have HR := hide hr
    clear hr
    subst h1
    go_enter Tryz.func90, Tryz.ntmps90
    go_wp2_with fail
    all_goals
      first
        | go_ret
        | (refine wp_region_later (W := W2) (by kernel_rfl) (by kernel_rfl) (Later.ext _) ?_
           repeat (go_big_quiet_step (fail))
           refine wpQuiet_nil ?_
           rintro _ ⟨e, rfl⟩
           go_wp2_with fail
           go_ret)
    all_goals
      refine ⟨?_, hx02.trans (Later.ext _)⟩
      rw [R.out]
      refine congrArg (fun b => Ending.returned (Value.bool b)) ?_
      rw [Bool.eq_iff_iff, yes_iff]
      have hh := HR.out n (len : Int)
      have q := RW.out
      simp [hh]
      try omega
  case full h h1 hr =>
    have HR := hide hr
    clear hr
    subst h1
    go_enter Tryz.func90, Tryz.ntmps90
    go_wp2_with fail
    all_goals
      first
        | go_ret
        | (refine wp_region_later (W := W2) (by kernel_rfl) (by kernel_rfl) (Later.ext _) ?_
           repeat (go_big_quiet_step (fail))
           refine wpQuiet_nil ?_
           rintro _ ⟨e, rfl⟩
           go_wp2_with fail
           go_ret)
    all_goals
      refine ⟨?_, hx02.trans (Later.ext _)⟩
      rw [R.out]
      refine congrArg (fun b => Ending.returned (Value.bool b)) ?_
      rw [Bool.eq_iff_iff, yes_iff]
      have hh := HR.out n (len : Int)
      have q := RW.out
      simp [hh]
      try omega
  case fits h h1 h2 h3 h4 hp h5 hr =>
    have HR := hide hr
    clear hr
    go_enter Tryz.func90, Tryz.ntmps90
    go_wp2_with fail
    all_goals
      first
        | go_ret
        | (refine wp_region_later (W := W2) (by kernel_rfl) (by kernel_rfl) (Later.ext _) ?_
           repeat (go_big_quiet_step (fail))
           refine wpQuiet_nil ?_
           rintro _ ⟨e, rfl⟩
           go_wp2_with fail
           go_ret)
    all_goals
      refine ⟨?_, hx02.trans (Later.ext _)⟩
      rw [R.out]
      refine congrArg (fun b => Ending.returned (Value.bool b)) ?_
      rw [Bool.eq_iff_iff, yes_iff]
      have hh := HR.out n (len : Int)
      have q := RW.out
      simp [hh]
      try omega
  case over h h1 h2 h3 h4 hp h5 hr =>
    have HR := hide hr
    clear hr
    go_enter Tryz.func90, Tryz.ntmps90
    go_wp2_with fail
    all_goals
      first
        | go_ret
        | (refine wp_region_later (W := W2) (by kernel_rfl) (by kernel_rfl) (Later.ext _) ?_
           repeat (go_big_quiet_step (fail))
           refine wpQuiet_nil ?_
           rintro _ ⟨e, rfl⟩
           go_wp2_with fail
           go_ret)
    all_goals
      refine ⟨?_, hx02.trans (Later.ext _)⟩
      rw [R.out]
      refine congrArg (fun b => Ending.returned (Value.bool b)) ?_
      rw [Bool.eq_iff_iff, yes_iff]
      have hh := HR.out n (len : Int)
      have q := RW.out
      simp [hh]
      try omega

end Go.Proofs.YtjoglnjpgkobeaaGreatDoor
