/-
  THE DOCUMENT's ANSWER OF CHAPTER 03: only (A).
-/
import Derived.Test.YtjoglnjpgkobeaaGreatDoorProg
import Derived.Test.YtjoglnjpgkobeaaGreatDoorS12
namespace Go.Proofs.YtjoglnjpgkobeaaGreatDoor
open Go Go.RowKit
set_option linter.all false
set_option linter.unusedVariables false
set_option linter.unusedSimpArgs false
set_option linter.unusedVariables false
set_option linter.unusedSimpArgs false
attribute [local go_sem] run_store_one
set_option maxRecDepth 20000 in
set_option maxHeartbeats 8000000 in
theorem refonly_A (B : Nat) (x : Itm) (w : World) (cs : List Value) (hR : RI w B x cs) (hB : B ≤ w.heap.size) (hz1 : x.name.size < 4294967281) (hz2 : x.of.size < 4294967281) (hlen : sizeI x ≤ 100000000) (hop : x.op = 1 ∨ x.op = 2 ∨ x.op = 3 ∨ x.op = 10) :
    Calls Tryz.prog 138 #[.agg cs.toArray] w fun e w' => e = .returned (.bool (yes (onlyP x))) ∧ Ext w w' := by
  obtain ⟨v3, v4, v5, v6, v7, v8, rfl, hX, hSS, hL, hE, hP, hBb⟩ := RI_iff.1 hR
  have o3 := hX.oneCell
  obtain ⟨a4, c4x, rfl, -, -⟩ := hSS
  obtain ⟨a5, c5x, rfl, -, -⟩ := hL
  obtain ⟨a6, c6x, rfl, -, -⟩ := hE
  obtain ⟨a7, c7x, rfl, -, -⟩ := hP
  obtain ⟨a8, c8x, rfl, -, -⟩ := hBb
  have hse := sizeI_eq x
  have := length_le_msize sizeB x.params sizeB_pos
  have := length_le_msize sizeB x.binds sizeB_pos
  have hpb : x.params.length + x.binds.length ≤ 200000000 := by omega
  obtain ⟨r, hr⟩ : ∃ r, r = yes (onlyP x) := ⟨_, rfl⟩
  have hr2 : r = (((true == !x.name.toList.isEmpty) && (!true || nameOk x.name)) && (((false == !x.of.toList.isEmpty) && (!false || nameOk x.of)) && ((((x.s.length : Nat) : Int) == 0) && ((((x.l.length : Nat) : Int) == 0) && ((((x.els.length : Nat) : Int) == 0) && (((x.params.length : Nat) : Int) + ((x.binds.length : Nat) : Int) == 0)))))) := by
    rw [hr]; unfold onlyP
    rw [yes_and, yes_and, yes_and, yes_and, yes_and, yes_fits _ true (by simp; omega), yes_fits _ false (by simp; omega)]
    have : yes (x.op = 5 ∨ x.op = 6 ∨ x.s.length = 0) = (((x.s.length : Nat) : Int) == 0) := by rw [Bool.eq_iff_iff, yes_iff, beq_iff_eq]; omega
    rw [this]
    have : yes (x.op = 8 ∨ x.op = 9 ∨ x.l.length = 0) = (((x.l.length : Nat) : Int) == 0) := by rw [Bool.eq_iff_iff, yes_iff, beq_iff_eq]; omega
    rw [this]
    have : yes (x.op = 8 ∨ x.els.length = 0) = (((x.els.length : Nat) : Int) == 0) := by rw [Bool.eq_iff_iff, yes_iff, beq_iff_eq]; omega
    rw [this]
    have : yes (x.op = 7 ∨ x.params.length = 0 ∧ x.binds.length = 0) = (((x.params.length : Nat) : Int) + ((x.binds.length : Nat) : Int) == 0) := by rw [Bool.eq_iff_iff, yes_iff, beq_iff_eq]; omega
    rw [this]
  rw [← hr]
  have R := hide hr2
  clear hr hr2 hse hR this
  generalize x.name = nm at *
  generalize x.of = of at *
  generalize x.s.length = ns at *
  generalize x.l.length = nl at *
  generalize x.els.length = nels at *
  generalize x.params.length = nparams at *
  generalize x.binds.length = nbinds at *
  have f4 : (x.op == 4) = false := beq_eq_false_iff_ne.2 (by omega)
  have g4 : (x.op != 4) = true := by simp [bne, f4]
  have f5 : (x.op == 5) = false := beq_eq_false_iff_ne.2 (by omega)
  have g5 : (x.op != 5) = true := by simp [bne, f5]
  have f6 : (x.op == 6) = false := beq_eq_false_iff_ne.2 (by omega)
  have g6 : (x.op != 6) = true := by simp [bne, f6]
  have f7 : (x.op == 7) = false := beq_eq_false_iff_ne.2 (by omega)
  have g7 : (x.op != 7) = true := by simp [bne, f7]
  have f8 : (x.op == 8) = false := beq_eq_false_iff_ne.2 (by omega)
  have g8 : (x.op != 8) = true := by simp [bne, f8]
  have f9 : (x.op == 9) = false := beq_eq_false_iff_ne.2 (by omega)
  have g9 : (x.op != 9) = true := by simp [bne, f9]
  generalize x.op = op at *
  clear hop
  obtain ⟨W1, e1, hV1, hx1, hs1, c0, c1, c2, c3, c4, c5, c6, c7, c8⟩ := boxL9 w (.int .i64 op) (.string nm) (.string of) v3 (.slice a4 ns c4x) (.slice a5 nl c5x) (.slice a6 nels c6x) (.slice a7 nparams c7x) (.slice a8 nbinds c8x) 53
  have G2 := hide (show ECalls Tryz.prog 112 #[.string nm] W1 (.bool (nameOk nm)) from fun w' hw => refName_any nm w' hz1)
  have G3 := hide (show ECalls Tryz.prog 112 #[.string of] W1 (.bool (nameOk of)) from fun w' hw => refName_any of w' hz2)
  generalize nameOk nm = bn at *
  generalize nameOk of = bo at *
  have hsum : (nparams : Int) + (nbinds : Int) ≤ 9223372036854775807 := by omega
  clear hz1 hz2 hlen
  cases hem : nm.toList.isEmpty <;> cases hof : of.toList.isEmpty
  all_goals
    rw [hem, hof] at R
    simp only [Bool.not_true, Bool.not_false, Bool.true_and, Bool.false_and, Bool.and_false, Bool.and_true, Bool.or_true, Bool.true_or, Bool.false_or, Bool.or_false, BEq.rfl, beq_true, beq_false] at R
    go_enter Tryz.func138, Tryz.ntmps138
    go_wp2_with (first
      | (go_at_call 112; with_reducible refine (G2.out.at_ _).mono ?_; rintro _ _ ⟨rfl, e, rfl⟩)
      | (go_at_call 112; with_reducible refine (G3.out.at_ _).mono ?_; rintro _ _ ⟨rfl, e, rfl⟩))
  all_goals
    go_ret
    refine ⟨?_, hx1.trans (Later.ext _)⟩
    rw [R.out]
    clear R G2 G3 hV1 c0 c1 c2 c3 c4 c5 c6 c7 c8
    first | rfl | (simp_all; done) | (trace_state; fail)
end Go.Proofs.YtjoglnjpgkobeaaGreatDoor
